import Derived.Test.YtccankldeogdlaaGra
import Derived.Test.YtccankldeogdlaaTcP
import Derived.Test.YtccankldeogdlaaHitP
import Derived.Test.YtccankldeogdlaaGox
import Derived.Test.YtccankldeogdlaaOrwZ
import Derived.Test.YtccankldeogdlaaBlw
import Derived.Test.YtccankldeogdlaaGooD
set_option linter.unusedVariables false
set_option linter.unusedSimpArgs false
set_option maxRecDepth 100000
set_option maxHeartbeats 4000000
namespace Go.Proofs.Ytccankldeogdlaa
section
open Go.RowKit
theorem turn_small_any (A : Option Addr) (c : Nat) (w : World) (a : Wd.At) (hW : Wd.Has w a smallW) (hl : Odr.rep.SHas 48 w A c [(⟨0, 3, 1, ⟨2, 0⟩, 0⟩ : Odr)]) :
  Calls Try.prog 27 #[.agg (Wd.cells a smallW).toArray, .slice A 1 c] w (fun e w' => ∃ a' A0 c0 A1 c1 A2 c2, e = .returned (.tuple #[.agg (Wd.cells a' tickV).toArray, .agg #[.slice A0 0 c0, .slice A1 0 c1, .slice A2 1 c2], .int .i64 0]) ∧ WOwn w' w.heap.size a' tickV ∧
   repI.SOwn 3 8 w' w.heap.size (Rep.blkOf A0) A0 c0 ([] : List Int) ∧ repI.SOwn 3 8 w' w.heap.size (Rep.blkOf A1) A1 c1 ([] : List Int) ∧ repB.SOwn 4 1 w' w.heap.size (Rep.blkOf A2) A2 c2 [true] ∧
   (∀ q, (q ∈ Rep.blkOf A0 ∨ q ∈ Rep.blkOf A1 ∨ q ∈ Rep.blkOf A2) → q ∉ WOwn.foot a') ∧ Ext w w') := by
 refine (turn_any a smallW A c tickL w hW hl).mono ?_
 rintro e w' ⟨a', A0, c0, A1, c1, A2, c2, rfl, h1, h2, h3, h4, h5, h6⟩
 obtain ⟨e1, e2, e3, e4, e5⟩ := turn_small
 rw [e1, e2, e3, e4, e5]
 rw [e2] at h1
 rw [e3] at h2
 rw [e4] at h3
 rw [e5] at h4
 exact ⟨a', A0, c0, A1, c1, A2, c2, rfl, h1, h2, h3, h4, h5, h6⟩
theorem tickLives_any  (w : World) :
  Calls Try.prog 28 #[] w (fun e w' => e = .returned (.bool true) ∧ Ext w w') := by
 refine calls_W (n := 40) Try.func28 rfl rfl rfl ?_
 refine sq <| rg <| vl (as_ rfl) rfl <| nl <| nT <| sq <| rg <| ca eF169 rfl rfl ((small_any _).mono ?_)
 rintro e w_4 ⟨a_1, rfl, HO_1, x_5⟩
 refine ⟨_, rfl, ?_⟩
 have q_6 := x_5.size
 have z_4 := Ext.tr (Ext.rf w) x_5
 have u_2 := fun q hq => (HO_1.lt q hq).2
 have lo_3 := fun q hq => (HO_1.lt q hq).1
 refine vl (v := .agg #[.int .i64 2, .int .i64 0]) (bd rfl (by kernel_rfl)) rfl <| vl (v := .agg #[.int .i64 0, .int .i64 3, .int .i64 1, .int .i64 2, .int .i64 0, .int .i64 0]) (bd rfl (by kernel_rfl)) rfl <| bs (e := 72) (cs := [.int .i64 0, .int .i64 3, .int .i64 1, .int .i64 2, .int .i64 0, .int .i64 0]) rfl (fun _ => by kernel_rfl) rfl fun w_7 b_8 x_9 l_10 B_11 => ?_
 have q_12 := x_9.size
 have z_7 := Ext.tr z_4 x_9
 have q_13 := B_11.lt
 have HO_1 := HO_1.later x_9
 refine ca eF170 rfl rfl ((turn_small_any _ _ _ _ HO_1.has (Blk.hasN (R := Odr.rep) (by_ := 48) (k := [(⟨0, 3, 1, ⟨2, 0⟩, 0⟩ : Odr)]) B_11 [[.int .i64 0, .int .i64 3, .int .i64 1, .int .i64 2, .int .i64 0, .int .i64 0]] rfl (⟨⟨rfl, ⟨okI_iff.2 (by (try dsimp only); omega), okI_iff.2 (by (try dsimp only); omega), okI_iff.2 (by (try dsimp only); omega), okI_iff.2 (by (try dsimp only); omega), okI_iff.2 (by (try dsimp only); omega), okI_iff.2 (by (try dsimp only); omega)⟩⟩, trivial⟩) (by simp) (by simp))).mono ?_)
 rintro e w_31 ⟨a14, A140, c140, A141, c141, A142, c142, rfl, HO14, OR140, OR141, OR142, hd14, x_32⟩
 refine ⟨_, rfl, ?_⟩
 have q_33 := x_32.size
 have z_31 := Ext.tr z_7 x_32
 have u_15 := fun q hq => (HO14.lt q hq).2
 have lo_16 := fun q hq => (HO14.lt q hq).1
 have u_17 := fun q hq => (OR140.lt q hq).2
 have lo_18 := fun q hq => (OR140.lt q hq).1
 have u_19 := fun q hq => (OR141.lt q hq).2
 have lo_20 := fun q hq => (OR141.lt q hq).1
 have u_21 := fun q hq => (OR142.lt q hq).2
 have lo_22 := fun q hq => (OR142.lt q hq).1
 have dd140 : ∀ q ∈ Rep.blkOf A140, q ∈ WOwn.foot a14 → False := fun q hq => hd14 q (.inl hq)
 have dw140 : ∀ q ∈ WOwn.foot a14, q ∈ Rep.blkOf A140 → False := fun q h1 h2 => dd140 q h2 h1
 have dd141 : ∀ q ∈ Rep.blkOf A141, q ∈ WOwn.foot a14 → False := fun q hq => hd14 q (.inr (.inl hq))
 have dw141 : ∀ q ∈ WOwn.foot a14, q ∈ Rep.blkOf A141 → False := fun q h1 h2 => dd141 q h2 h1
 have dd142 : ∀ q ∈ Rep.blkOf A142, q ∈ WOwn.foot a14 → False := fun q hq => hd14 q (.inr (.inr hq))
 have dw142 : ∀ q ∈ WOwn.foot a14, q ∈ Rep.blkOf A142 → False := fun q h1 h2 => dd142 q h2 h1
 refine vl (mv rfl) rfl <| vl (ex rfl rfl) rfl <| vl (ex rfl rfl) rfl <| vl (ex rfl rfl) rfl <| al rfl eF80 rfl rfl fun w_34 b_35 x_36 l_37 B_38 => ?_
 have q_39 := x_36.size
 have z_34 := Ext.tr z_31 x_36
 have q_40 := B_38.lt
 refine al rfl eF158 rfl rfl fun w_41 b_42 x_43 l_44 B_45 => ?_
 have q_46 := x_43.size
 have z_41 := Ext.tr z_34 x_43
 have q_47 := B_45.lt
 have B_38 := B_38.later x_43
 refine st rfl rfl B_38 rfl eF62 rfl rfl rfl fun w_48 m_49 B_38 => ?_
 have q_51 := m_49.size
 have z_48 := Ext.mod z_41 m_49 (ge1 (by omega))
 have q_50 := m_49.size
 have B_45 := B_45.mod m_49 (nm1 (by omega))
 refine st (new := [.slice A140 0 c140, .slice A141 0 c141, .slice A142 1 c142]) rfl rfl B_45 rfl eF160 rfl rfl rfl fun w_52 m_53 B_45 => ?_
 have q_55 := m_53.size
 have z_52 := Ext.mod z_48 m_53 (ge1 (by omega))
 have q_54 := m_53.size
 refine vl (as_ rfl) rfl <| nl <| nT <| sq <| rg <| vl (mv rfl) rfl <| vl (beq rfl rfl) rfl <| vl (mv rfl) rfl <| ug rfl rfl rfl <| vl (fa eF167 rfl) rfl <| ug rfl rfl rfl <| vl (ld rfl (B_45.one eF171 rfl)) rfl <| ug rfl rfl rfl <| bs (e := 4) (cs := [.bool true]) rfl (fun _ => by kernel_rfl) rfl fun w_56 b_57 x_58 l_59 B_60 => ?_
 have q_61 := x_58.size
 have z_56 := Ext.tr z_52 x_58
 have q_62 := B_60.lt
 refine ug rfl rfl rfl <| ?_
 have OR142 := OR142.later (Ext.tr x_36 x_43)
 have OR142 := OR142.mod m_49 (fk1 u_21 (by omega))
 have OR142 := OR142.mod m_53 (fk1 u_21 (by omega))
 have OR142 := OR142.later x_58
 refine ca eF172 rfl rfl ((equal_B _ _ _ _ _ _ ([true]) ([true]) _ OR142.has (Blk.hasN (R := repB) (by_ := 1) (k := [true]) B_60 [[.bool true]] rfl (⟨⟨rfl, trivial⟩, trivial⟩) (by simp) (by simp))).mono ?_)
 rintro e w_63 ⟨rfl, x_64⟩
 refine ⟨_, rfl, ?_⟩
 have q_65 := x_64.size
 have z_63 := Ext.tr z_56 x_64
 refine vl (pkT rfl rfl) rfl <| vl (mv rfl) rfl <| vQ rfl rfl rfl rfl (fun hc => fa eF134 rfl) rfl <| ?_
 have B_38 := B_38.mod m_53 (nm1 (by omega))
 have B_38 := B_38.later (Ext.tr x_58 x_64)
 refine vQ rfl rfl rfl rfl (fun hc => ld (gt hc rfl) (B_38.one eF1 rfl)) rfl <| vQ rfl rfl rfl rfl (fun hc => beq (gt hc rfl) rfl) rfl <| vl (pA rfl rfl rfl rfl) rfl <| vl (mv rfl) rfl <| vQ rfl rfl rfl rfl (fun hc => fa eF64 rfl) rfl <| vQ rfl rfl rfl rfl (fun hc => ld (gt hc rfl) (B_38.one eF65 rfl)) rfl <| vQ rfl rfl rfl rfl (fun hc => ln Try.underlying56 (gt hc rfl)) rfl <| vQ rfl rfl rfl rfl (fun hc => beq (gt hc rfl) rfl) rfl <| vl (pA rfl rfl rfl rfl) rfl <| vl (mv rfl) rfl <| vQ rfl rfl rfl rfl (fun hc => fa eF64 rfl) rfl <| vQ rfl rfl rfl rfl (fun hc => ld (gt hc rfl) (B_38.one eF65 rfl)) rfl <| ?_
 have HO14 := HO14.later (Ext.tr x_36 x_43)
 have HO14 := HO14.mod m_49 (fk1 u_15 (by omega))
 have HO14 := HO14.mod m_53 (fk1 u_15 (by omega))
 have HO14 := HO14.later (Ext.tr x_58 x_64)
 refine vQ rfl rfl rfl rfl (fun hc => iA 0 Try.underlying56 eF66 (gt hc rfl) rfl (HO14.T.has.adr (Nat.zero_lt_of_lt (show 0 < _ from (by decide +kernel : 0 < (tickV.troops).length)))) rfl (by decide +kernel : 0 < (tickV.troops).length)) rfl <| vQ rfl rfl rfl rfl (fun hc => fa eF109 (gt hc rfl)) rfl <| vQ rfl rfl rfl rfl (fun hc => ld (gt hc rfl) (Rep.SHas.fld hcT (HO14.T.has.adh (Nat.zero_lt_of_lt (show 0 < _ from (by decide +kernel : 0 < (tickV.troops).length)))) 6 (get_d (l := tickV.troops) (u := default) (by decide +kernel : 0 < (tickV.troops).length)) rfl eF1)) rfl <| vQ rfl rfl rfl rfl (fun hc => beq (gt hc rfl) rfl) rfl <| vl (pA rfl rfl rfl rfl) rfl <| vl (as_ rfl) rfl <| nl <| nT <| rt <| tR (.tmp rfl .nil) <| ?_
 exact ⟨ret_true (by decide +kernel), z_63⟩
end
section
open Go.RowKit
theorem idxF_O (fC : FuncId) (cs : List Value) (p : Odr → Bool) (A : Option Addr) (c : Nat) (l : List Odr) (w : World) (hl : Odr.rep.SHas 48 w A c l) (hE : Enters Try.prog fC) (hC : ∀ x ∈ l, ∀ w', Ext w w' → Calls Try.prog fC (([.agg #[.int .i64 x.by_, .int .i64 x.kind, .int .i64 x.who, .int .i64 x.spot.x, .int .i64 x.spot.y, .int .i64 x.what]] : List Value) ++ cs).toArray w' fun e w'' => e = .returned (.bool (p x)) ∧ Ext w' w'') :
  Calls Try.prog 69 #[.slice A l.length c, .func (.func fC) #[] cs.toArray] w (fun e w' => e = .returned (.int .i64 (idxI p l)) ∧ Ext w w') := by
 have hll := hl.len_le
 refine calls_W (n := 19) Try.func69 rfl rfl rfl ?_
 refine sq <| rg <| vl (as_ rfl) rfl <| nl <| nT <| sq <| sq <| rg <| vl (mv rfl) rfl <| vl (ln Try.underlying59 rfl) rfl <| vl (mv rfl) rfl <| nl <| nT <| bk <| ?_
 refine lp (fun mI EI wI => ∃ k : Nat, EI = [(0, .slice A l.length c), (1, .func (.func fC) #[] cs.toArray), (7, .int .i64 (l.length : Int)), (8, .int .i64 (k : Int))] ∧ mI = l.length - k ∧ Ext w wI ∧ (k ≤ l.length) ∧ (∀ i, i < k → p (l.getD i default) = false)) _ _ ⟨0, rfl, rfl, (Ext.rf w), by omega, fun i hi => by omega⟩ (.cons rfl (.cons rfl (.cons rfl (.cons (loI rfl (by first | omega | rfl | (simp <;> omega))) .nil)))) ?_
 rintro m_2 E_3 w_1 ⟨k, rfl, rfl, z_1, hk, hg⟩
 have q_4 := z_1.size
 refine sq <| rg <| vl (blt rfl rfl) rfl <| nl <| nT <| sq <| ?_
 refine clt rfl (fun h_5 => ?_) (fun h_5 => ?_)
 ·refine sk <| nT <| sq <| bk <| sq <| rg <| vl (mv rfl) rfl <| vl (as_ rfl) rfl <| nl <| nT <| sq <| rg <| vl (mv rfl) rfl <| vl (mv rfl) rfl <| vl (mv rfl) rfl <| vl (iA k Try.underlying59 eF141 rfl rfl ((hl.keep z_1).adr (Nat.zero_lt_of_lt (show k < _ from (by omega)))) rfl (by omega)) rfl <| vl (ld rfl (Rep.SHas.elt hcO ((hl.keep z_1).adh (Nat.zero_lt_of_lt (show k < _ from (by omega)))) (get_d (l := l) (u := default) (by omega)) eF140 eF141)) rfl <| cv hE rfl rfl rfl ((hC (l.getD k default) (mem_dd (by omega)) _ z_1).mono ?_)
  rintro e w_6 ⟨rfl, x_7⟩
  refine ⟨_, rfl, ?_⟩
  have q_8 := x_7.size
  have z_6 := Ext.tr z_1 x_7
  refine nl <| nT <| ?_
  refine cb rfl (fun h_9 => ?_) (fun h_9 => ?_)
  ·refine sq <| rg <| vl (mv rfl) rfl <| vl (as_ rfl) rfl <| nl <| nT <| rt <| tB <| tT <| tK <| tB <| tT <| tR (.tmp rfl .nil) <| ?_
   exact ⟨by have e := idx_some_dd (p := p) (l := l) (d := default) (k := k) (by omega) h_9 hg; rw [e]; rfl, z_6⟩
  ·refine sk <| nB <| nT <| rg <| vl (bad rfl rfl (inI (by omega))) rfl <| vl (mv rfl) rfl <| nl <| ?_
   exact nI _ _ ⟨k + 1, rfl, rfl, z_6, by omega, lt_succ_all hg h_9⟩ (by omega) (.cons rfl (.cons rfl (.cons rfl (.cons (loI rfl (by first | omega | rfl | (simp <;> omega))) .nil))))
 ·refine xt <| xT <| xK <| xB <| nT <| sq <| rg <| vl (as_ rfl) rfl <| nl <| nT <| rt <| tR (.tmp rfl .nil) <| ?_
  exact ⟨by have e := idx_none_dd (p := p) (l := l) (d := default) (fun i hi => hg i (by omega)); rw [e]; rfl, z_1⟩
theorem delF_O (w0 : World) (fC : FuncId) (cs : List Value) (p : Odr → Bool) (A : Option Addr) (c : Nat) (l : List Odr) (w : World) (hx0 : Ext w0 w) (hO : Odr.rep.SOwn 72 48 w w0.heap.size (Rep.blkOf A) A c l) (hE : Enters Try.prog fC) (hC : ∀ x ∈ l, ∀ w', Ext w0 w' → Calls Try.prog fC (([.agg #[.int .i64 x.by_, .int .i64 x.kind, .int .i64 x.who, .int .i64 x.spot.x, .int .i64 x.spot.y, .int .i64 x.what]] : List Value) ++ cs).toArray w' fun e w'' => e = .returned (.bool (p x)) ∧ Ext w' w'') :
  Calls Try.prog 32 #[.slice A l.length c, .func (.func fC) #[] cs.toArray] w (fun e w' => e = .returned (.slice A (l.filter fun x => !p x).length c) ∧ Odr.rep.SOwn 72 48 w' w0.heap.size (Rep.blkOf A) A c (l.filter fun x => !p x) ∧ Mod (Rep.blkOf A) w w') := by
 have hl0 := hO.has
 have hll := hl0.len_le
 have hlc := hl0.1
 have uA := fun q hq => (hO.lt q hq).2
 have lA := fun q hq => (hO.lt q hq).1
 have lA2 : ∀ q ∈ Rep.blkOf A, w0.heap.size ≤ q := lA
 have hx0s := hx0.size
 refine calls_W (n := 42) Try.func32 rfl rfl rfl ?_
 refine sq <| rg <| vl (as_ rfl) rfl <| nl <| nT <| sq <| rg <| vl (mv rfl) rfl <| vl (mv rfl) rfl <| ca eF173 rfl rfl ((idxF_O fC cs p _ _ l _ hO.has hE (fun x hx w' h => hC x hx w' (Ext.tr (Ext.mod hx0 (Mod.rf (Rep.blkOf A) w) lA) h))).mono ?_)
 rintro e w_1 ⟨rfl, x_2⟩
 refine ⟨_, rfl, ?_⟩
 have q_3 := x_2.size
 have z_1 := (Mod.rf (Rep.blkOf A) w).trans (Mod.of_ext x_2)
 refine vl (as_ rfl) rfl <| nl <| nT <| sq <| sq <| rg <| vl (mv rfl) rfl <| vl (beq rfl rfl) rfl <| nl <| nT <| ?_
 refine ceq rfl (fun h_4 => ?_) (fun h_4 => ?_)
 ·refine sq <| rg <| vl (mv rfl) rfl <| vl (as_ rfl) rfl <| nl <| nT <| rt <| tT <| tR (.tmp rfl .nil) <| ?_
  have hO := hO.later x_2
  have e1 := idx_nofilter (by simpa using h_4)
  exact ⟨by rw [e1]; rfl, by rw [e1]; exact hO, z_1⟩
 ·obtain ⟨k0, hk0, e0, hm0⟩ := idx_first h_4
  refine sk <| nT <| sq <| sq <| rg <| vl (mv rfl) rfl <| vl (bad rfl rfl (inI (by omega))) rfl <| vl (as_ rfl) rfl <| nl <| nT <| bk <| ?_
  have hO := hO.later x_2
  refine lp (fun mI EI wI => ∃ L : List Odr, ∃ i : Nat, ∃ j : Nat, EI = [(0, .slice A l.length c), (1, .func (.func fC) #[] cs.toArray), (4, .slice none 0 0), (5, .int .i64 (i : Int)), (6, .int .i64 (j : Int))] ∧ mI = l.length - j ∧ Mod (Rep.blkOf A) w wI ∧ Odr.rep.SOwn 72 48 wI w0.heap.size (Rep.blkOf A) A c (L) ∧ (L.length = l.length) ∧ (i < j) ∧ (j ≤ l.length) ∧ (L.take i = (l.take j).filter fun x => !p x) ∧ (L.drop j = l.drop j)) _ _ ⟨l, k0, k0 + 1, rfl, rfl, z_1, hO, rfl, by omega, by omega, hm0, rfl⟩ (.cons rfl (.cons rfl (.cons rfl (.cons (loI rfl (by first | omega | rfl | (simp <;> omega))) (.cons (loI rfl (by first | omega | rfl | (simp <;> omega))) .nil))))) ?_
  rintro m_6 E_7 w_5 ⟨L, i, j, rfl, rfl, z_5, O1, hL, hi, hj, hpre, hsuf⟩
  have q_8 := z_5.size
  have u_9 := fun q hq => (O1.lt q hq).2
  refine sq <| sq <| rg <| vl (mv rfl) rfl <| vl (mv rfl) rfl <| vl (ln Try.underlying59 rfl) rfl <| vl (blt rfl rfl) rfl <| nl <| nT <| ?_
  refine clt rfl (fun h_10 => ?_) (fun h_10 => ?_)
  ·refine sk <| nT <| sq <| bk <| sq <| rg <| vl (mv rfl) rfl <| vl (mv rfl) rfl <| vl (iA j Try.underlying59 eF141 rfl rfl (O1.has.adr (Nat.zero_lt_of_lt (show j < _ from (by omega)))) rfl (by omega)) rfl <| vl (ld rfl (Rep.SHas.elt hcO (O1.has.adh (Nat.zero_lt_of_lt (show j < _ from (by omega)))) (suf_get (d := default) (by omega) (by omega) hsuf) eF140 eF141)) rfl <| al rfl eF135 rfl rfl fun w_11 b_12 x_13 l_14 B_15 => ?_
   have q_16 := x_13.size
   have z_11 := z_5.trans (Mod.of_ext x_13)
   have q_17 := B_15.lt
   refine st (new := [.int .i64 ((l.getD j default).by_), .int .i64 ((l.getD j default).kind), .int .i64 ((l.getD j default).who), .int .i64 ((l.getD j default).spot.x), .int .i64 ((l.getD j default).spot.y), .int .i64 ((l.getD j default).what)]) rfl rfl B_15 rfl eF141 rfl rfl rfl fun w_18 m_19 B_15 => ?_
   have q_21 := m_19.size
   have z_18 := z_11.md m_19 (fun q hq => .inr (by have := List.mem_singleton.1 hq; omega))
   have q_20 := m_19.size
   refine nl <| nT <| sq <| rg <| vl (mv rfl) rfl <| vl (ld rfl (B_15.all eF140 eF141)) rfl <| cv hE rfl rfl rfl ((hC (l.getD j default) (mem_dd (by omega)) _ (Ext.mod hx0 z_18 lA)).mono ?_)
   rintro e w_22 ⟨rfl, x_23⟩
   refine ⟨_, rfl, ?_⟩
   have q_24 := x_23.size
   have z_22 := z_18.trans (Mod.of_ext x_23)
   refine vl (nt rfl) rfl <| nl <| nT <| ?_
   refine cb rfl (fun h_25 => ?_) (fun h_25 => ?_)
   ·refine sq <| rg <| vl (mv rfl) rfl <| vl (mv rfl) rfl <| ?_
    have B_15 := B_15.later x_23
    refine vl (ld rfl (B_15.all eF140 eF141)) rfl <| ?_
    have O1 := O1.later x_13
    have O1 := O1.mod m_19 (fk1 u_9 (by omega))
    have O1 := O1.later x_23
    refine vl (iA i Try.underlying59 eF141 rfl rfl (O1.has.adr (Nat.zero_lt_of_lt (show i < _ from (by omega)))) rfl (by omega)) rfl <| soE (q' := l.getD j default) (i := i) (es := [.int .i64 ((l.getD j default).by_), .int .i64 ((l.getD j default).kind), .int .i64 ((l.getD j default).who), .int .i64 ((l.getD j default).spot.x), .int .i64 ((l.getD j default).spot.y), .int .i64 ((l.getD j default).what)]) O1 Rep.flat_bare (by omega) rfl rfl rfl rfl (fun _ => ⟨rfl, (Odr.all_ok hl0 _ (mem_dd (by omega)))⟩) eF141 fun w_26 m_27 O_28 => ?_
    have q_29 := m_27.size
    have z_26 := z_22.md m_27 (fun q hq => .inl hq)
    have q_30 := m_27.size
    refine nl <| nT <| rg <| vl (mv rfl) rfl <| vl (bad rfl rfl (inI (by omega))) rfl <| vl (as_ rfl) rfl <| nl <| nB <| nT <| rg <| vl (mv rfl) rfl <| vl (bad rfl rfl (inI (by omega))) rfl <| vl (as_ rfl) rfl <| nl <| ?_
    exact nI _ _ ⟨(L).set i (l.getD j default), i + 1, j + 1, rfl, rfl, z_26, O_28, by rw [List.length_set]; exact hL, by omega, by omega, del_keep hL (by omega) (by omega) hpre h_25, del_suf (by omega) hsuf⟩ (by omega) (.cons rfl (.cons rfl (.cons rfl (.cons (loI rfl (by first | omega | rfl | (simp <;> omega))) (.cons (loI rfl (by first | omega | rfl | (simp <;> omega))) .nil)))))
   ·refine sk <| nB <| nT <| rg <| vl (mv rfl) rfl <| vl (bad rfl rfl (inI (by omega))) rfl <| vl (as_ rfl) rfl <| nl <| ?_
    have O1 := O1.later x_13
    have O1 := O1.mod m_19 (fk1 u_9 (by omega))
    have O1 := O1.later x_23
    exact nI _ _ ⟨L, i, j + 1, rfl, rfl, z_22, O1, hL, by omega, by omega, del_drop (by omega) hpre h_25, drop_succ hsuf⟩ (by omega) (.cons rfl (.cons rfl (.cons rfl (.cons rfl (.cons (loI rfl (by first | omega | rfl | (simp <;> omega))) .nil)))))
  ·refine xt <| xT <| xK <| xB <| nT <| sq <| rg <| vl (mv rfl) rfl <| vl (mv rfl) rfl <| vl (sT i Try.underlying59 eF141 rfl rfl rfl (by omega)) rfl <| cl (k := i) (q := l.length - i) (z := Odr.zero) (m := 6) Try.underlying59 Odr.info rfl (by decide) rfl (by decide) Odr.zero_raw (show Odr.rep.SOwn _ _ _ _ _ _ _ L from O1) Rep.flat_bare (by omega) (by omega) (by omega) (hO.block (by omega)) rfl fun w_31 m_32 O_33 => ?_
   have q_34 := m_32.size
   have z_31 := z_5.md m_32 (fun q hq => .inl hq)
   refine nl <| nT <| sq <| rg <| vl (mv rfl) rfl <| vl (mv rfl) rfl <| vl (sP i i Try.underlying59 eF141 rfl rfl rfl (by omega) rfl) rfl <| vl (as_ rfl) rfl <| nl <| nT <| rt <| tR (.tmp rfl .nil) <| ?_
   obtain rfl : j = l.length := by omega
   rw [List.take_length] at hpre
   have hli : (l.filter fun x => !p x).length = i := by rw [← hpre, List.length_take]; omega
   exact ⟨by rw [hli]; rfl, by rw [← hpre]; exact O_33, z_31⟩
end
section
open Go.RowKit
theorem clone_O (A : Option Addr) (c : Nat) (l : List Odr) (w : World) (h : Odr.rep.SHas 48 w A c l) :
  Calls Try.prog 33 #[.slice A l.length c] w fun e w' => ∃ A' c', e = .returned (.slice A' l.length c') ∧ Odr.rep.SOwn 72 48 w' w.heap.size (Rep.blkOf A') A' c' l ∧ (A' = none ↔ A = none) ∧ Below w.heap.size w w' := by
 obtain ⟨i0, hi, hz0, hz1, hz2⟩ := info_parts Odr.info
 have qnil : ∀ (w : World) (a : Option Addr) (n c n' c' : Nat), (binOp .eql 59 (.slice a n c) (.slice none n' c')).run Try.prog w = .ok (.bool a.isNone) w := fun w a n c n' c' => Lib.run_eql_slice_nil w _ _ a n c n' c' Try.underlying59
 cases A with
 | none =>
  obtain rfl : c = 0 := h.2.2.2.1 rfl
  obtain rfl : l = [] := List.eq_nil_of_length_eq_zero (by have := h.1; omega)
  go_enter Try.func33, Try.ntmps33
  go_wp2_with fail
  go_ret
  exact ⟨none, 0, rfl, Rep.SOwn.nil _, by simp, Below.refl _ _⟩
 | some a =>
  have hb0 : Below w.heap.size w (w.alloc (.cells #[] 72)) := (Below.refl _ w).alloc (Nat.le_refl _) _
  obtain ⟨n, HN⟩ : ∃ n, Hid (l.length = n) := ⟨_, Lib.hid rfl⟩
  obtain ⟨h1, h2, h3, h4, ess, h5, h6⟩ := h.keep hb0
  have H5 := Lib.hid h5
  have hone : ∀ u ∈ ess.flatten, u.oneCell' = true := by
   intro u hu
   obtain ⟨y, hy, hu⟩ := List.mem_flatten.1 hu
   obtain ⟨a, ha⟩ := h5.left y hy
   exact Odr.rep.one ha u hu
  have hraw : ∀ (j : Nat) u, ess.flatten[j]? = some u → Odr.rep.raw (j % Odr.rep.size) u := fun j u hu => flat_raw h5 (by decide) hu
  rw [HN.out] at h1 h3 h6
  have HR := Lib.hid h6
  have HE := Lib.hid (Own.empty (e := 72) (size := Odr.rep.size) (G := Odr.rep.raw) w (Nat.le_refl w.heap.size))
  clear h h4 h5 h6
  rw [HN.out]
  go_enter Try.func33, Try.ntmps33
  go_wp2_with (at_builtin; refine wpList_append_all _ rfl _ _ 59 rfl w.heap.size 72 i0 Odr.zero Odr.rep.size 48 Try.underlying59 hi hz0 hz1 hz2 rfl (by decide) Odr.rep.raw Odr.zero_raw _ _ _ rfl HE.out (some a) n c ess.flatten rfl HR.out hone hraw ?qc4 ?qc5 ?qc6 ?_)
  case qc4 => unfold maxLen; omega
  case qc5 => omega
  case qc6 => simp
  intro v' w1 hown hgrow hnil hat
  have hb1 := hb0.grown hgrow (by simp) (by intro k hk; simp [Value.ownBlock] at hk; omega)
  obtain ⟨A1, c1, rfl, hle, _, _, _, hnn⟩ := hown.shape
  have hA1 : A1 ≠ none := by
   intro h
   subst h
   exact hnil (hnn rfl)
  have HO : Hid (Odr.rep.SOwn 72 48 w1 w.heap.size (Rep.blkOf A1) A1 c1 l) := Lib.hid (Rep.SOwn.of_plain Odr.plain H5.out (by rw [HN.out]; exact h3) (by rw [HN.out]; simpa using hown))
  have HA1 := Lib.hid hA1
  clear hgrow hnil hat hown hA1 hnn hone hraw
  go_wp2_with fail
  go_ret
  exact ⟨A1, c1, rfl, HO.out, ⟨fun h => absurd h HA1.out, fun h => by cases h⟩, hb1⟩
end
section
open Go.RowKit
def allowed (W : Wd) (o : Odr) : Bool := if o.kind = 5 then decide (o.by_ < (W.bases.length : Int)) else (trOfD W.troops o.who).isSome && (((trOfD W.troops o.who).getD default).owner == o.by_)
theorem getI_own {T : List Trp} {x : Int} : getI (T.map fun t => (t.id, t.owner)) x = (trOfD T x).map Trp.owner := by
 unfold getI trOfD
 rw [List.find?_map]
 induction T with
 | nil => rfl
 | cons t T ih =>
  simp only [List.find?_cons, Function.comp_apply]
  cases h : t.id == x with
  | true => rfl
  | false => exact ih
theorem allowed_may (W : Wd) (o : Odr) : allowed W o = may W o := by
 unfold allowed may
 split
 ·simp
 ·unfold ownK
  rw [List.take_length, getI_own]
  cases trOfD W.troops o.who <;> simp
def mineT (W : Wd) (l : List Odr) : List Odr := l.filter fun x => !(!allowed W x)
theorem flat_mine {β : Type} (W : Wd) (g : Odr → List β) : ∀ l : List Odr, (mineT W l).flatMap (fun o => if may W o = true then g o else []) = l.flatMap fun o => if may W o = true then g o else []
 | [] => rfl
 | o :: l => by
  have ih := flat_mine W g l
  unfold mineT at ih ⊢
  rw [List.filter_cons, Bool.not_not, allowed_may]
  cases h : may W o with
  | true => rw [if_pos rfl, List.flatMap_cons, List.flatMap_cons, ih]
  | false => rw [if_neg (by decide), List.flatMap_cons, h, if_neg (by decide), List.nil_append, ih]
theorem turn_blind {W : Wd} {l : List Odr} (h : turnE W l = 0) : turnE W (mineT W l) = 0 ∧ turnW W (mineT W l) = turnW W l ∧ turnG W (mineT W l) = turnG W l ∧ turnM W (mineT W l) = turnM W l ∧ turnD W (mineT W l) = turnD W l := by
 obtain ⟨h1, h2, h3, h4⟩ := turnE_zero h
 have hm : ∀ o ∈ mineT W l, o ∈ l := fun o ho => (List.mem_filter.1 ho).1
 have e0 : ordsE (mineT W l) = 0 := ordsE_mk (Nat.le_trans (List.length_filter_le _ _) h4) fun o ho => (ordsE_zero (splE_zero h1).1).2 o (hm o ho)
 have e1 : splE W (mineT W l) = 0 := by unfold splE; rw [if_neg (by simpa using e0)]; exact h3
 have e2 : turnE W (mineT W l) = 0 := by unfold turnE; rw [if_neg (by simpa using e1), if_neg (by omega)]
 have eB : splB W (mineT W l) (mineT W l).length = splB W l l.length := by unfold splB; rw [List.take_length, List.take_length, flat_mine]
 have eG : splG W (mineT W l) (mineT W l).length = splG W l l.length := by unfold splG; rw [List.take_length, List.take_length, flat_mine]
 have eD : splD W (mineT W l) (mineT W l).length = splD W l l.length := by unfold splD; rw [List.take_length, List.take_length, flat_mine]
 obtain ⟨z1, z2, z3, z4⟩ := turn_yes h
 obtain ⟨y1, y2, y3, y4⟩ := turn_yes e2
 have t1 : turn1 W (mineT W l) = turn1 W l := by unfold turn1; rw [eB]
 have t2 : turn2 W (mineT W l) = turn2 W l := by unfold turn2; rw [t1, eG]
 have t3 : turn3 W (mineT W l) = turn3 W l := by unfold turn3; rw [t2, eD]
 refine ⟨e2, ?_, ?_, ?_, ?_⟩
 ·rw [y1, z1, t3]
 ·rw [y2, z2, eB]
 ·rw [y3, z3, t1, eG]
 ·rw [y4, z4, t2, eD]
theorem sameReport_any (P00 P01 P02 P10 P11 P12 : Option Addr) (p00 p01 p02 p10 p11 p12 : Nat) (G0 M0 G1 M1 : List Int) (D0 D1 : List Bool) (w : World) (hG0 : repI.SHas 8 w P00 p00 G0) (hM0 : repI.SHas 8 w P01 p01 M0) (hD0 : repB.SHas 1 w P02 p02 D0) (hG1 : repI.SHas 8 w P10 p10 G1) (hM1 : repI.SHas 8 w P11 p11 M1) (hD1 : repB.SHas 1 w P12 p12 D1) :
  Calls Try.prog 36 #[.agg #[.slice P00 G0.length p00, .slice P01 M0.length p01, .slice P02 D0.length p02], .agg #[.slice P10 G1.length p10, .slice P11 M1.length p11, .slice P12 D1.length p12]] w (fun e w' => e = .returned (.bool ((decide (G0 = G1) && decide (M0 = M1)) && decide (D0 = D1))) ∧ Ext w w') := by
 refine calls_W (n := 24) Try.func36 rfl rfl rfl ?_
 refine sq <| rg <| bx rfl rfl rfl rfl fun w_1 b_2 x_3 l_4 B_5 => ?_
 have q_6 := x_3.size
 have z_1 := Ext.tr (Ext.rf w) x_3
 have q_7 := B_5.lt
 refine bx rfl rfl rfl rfl fun w_8 b_9 x_10 l_11 B_12 => ?_
 have q_13 := x_10.size
 have z_8 := Ext.tr z_1 x_10
 have q_14 := B_12.lt
 refine vl (as_ rfl) rfl <| nl <| nT <| sq <| rg <| vl (fa eF163 rfl) rfl <| ?_
 have B_5 := B_5.later x_10
 refine vl (ld rfl (B_5.one eF36 rfl)) rfl <| vl (fa eF163 rfl) rfl <| vl (ld rfl (B_12.one eF36 rfl)) rfl <| ca eF130 rfl rfl ((equal_Z _ _ _ _ _ _ G0 G1 _ (hG0.keep z_8) (hG1.keep z_8)).mono ?_)
 rintro e w_15 ⟨rfl, x_16⟩
 refine ⟨_, rfl, ?_⟩
 have q_17 := x_16.size
 have z_15 := Ext.tr z_8 x_16
 refine vl (mv rfl) rfl <| vQ rfl rfl rfl rfl (fun hc => fa eF165 rfl) rfl <| ?_
 have B_5 := B_5.later x_16
 refine vQ rfl rfl rfl rfl (fun hc => ld (gt hc rfl) (B_5.one eF36 rfl)) rfl <| vQ rfl rfl rfl rfl (fun hc => fa eF165 rfl) rfl <| ?_
 have B_12 := B_12.later x_16
 refine vQ rfl rfl rfl rfl (fun hc => ld (gt hc rfl) (B_12.one eF36 rfl)) rfl <| vC rfl rfl rfl rfl eF130 (fun hc => ec (gt hc rfl) (ec (gt hc rfl) rfl)) (fun hc => equal_Z _ _ _ _ _ _ M0 M1 _ (hM0.keep z_15) (hM1.keep z_15)) rfl fun w_18 x_19 => ?_
 have q_20 := x_19.size
 have z_18 := Ext.tr z_15 x_19
 refine vl (pA rfl rfl rfl rfl) rfl <| vl (mv rfl) rfl <| vQ rfl rfl rfl rfl (fun hc => fa eF167 rfl) rfl <| ?_
 have B_5 := B_5.later x_19
 refine vQ rfl rfl rfl rfl (fun hc => ld (gt hc rfl) (B_5.one eF171 rfl)) rfl <| vQ rfl rfl rfl rfl (fun hc => fa eF167 rfl) rfl <| ?_
 have B_12 := B_12.later x_19
 refine vQ rfl rfl rfl rfl (fun hc => ld (gt hc rfl) (B_12.one eF171 rfl)) rfl <| vC rfl rfl rfl rfl eF172 (fun hc => ec (gt hc rfl) (ec (gt hc rfl) rfl)) (fun hc => equal_B _ _ _ _ _ _ D0 D1 _ (hD0.keep z_18) (hD1.keep z_18)) rfl fun w_21 x_22 => ?_
 have q_23 := x_22.size
 have z_21 := Ext.tr z_18 x_22
 refine vl (pA rfl rfl rfl rfl) rfl <| vl (as_ rfl) rfl <| nl <| nT <| rt <| tR (.tmp rfl .nil) <| ?_
 exact ⟨rfl, z_21⟩
theorem allowed_any (o : Odr) (a : Wd.At) (W : Wd) (w : World) (hW : Wd.Has w a W) :
  Calls Try.prog 35 #[.agg #[.int .i64 o.by_, .int .i64 o.kind, .int .i64 o.who, .int .i64 o.spot.x, .int .i64 o.spot.y, .int .i64 o.what], .agg ((Wd.cells a W).toArray)] w (fun e w' => e = .returned (.bool (allowed W o)) ∧ Ext w w') := by
 refine calls_W (n := 31) Try.func35 rfl rfl rfl ?_
 refine sq <| rg <| bx rfl rfl rfl rfl fun w_1 b_2 x_3 l_4 B_5 => ?_
 have q_6 := x_3.size
 have z_1 := Ext.tr (Ext.rf w) x_3
 have q_7 := B_5.lt
 refine bx rfl rfl rfl rfl fun w_8 b_9 x_10 l_11 B_12 => ?_
 have q_13 := x_10.size
 have z_8 := Ext.tr z_1 x_10
 have q_14 := B_12.lt
 refine vl (as_ rfl) rfl <| nl <| nT <| sq <| sq <| rg <| vl (fa eF136 rfl) rfl <| ?_
 have B_5 := B_5.later x_10
 refine vl (ld rfl (B_5.one eF1 rfl)) rfl <| vl (beq rfl rfl) rfl <| nl <| nT <| ?_
 refine ceq rfl (fun h_15 => ?_) (fun h_15 => ?_)
 ·refine sq <| rg <| vl (fa eF142 rfl) rfl <| vl (ld rfl (B_5.one eF1 rfl)) rfl <| vl (fa eF83 rfl) rfl <| vl (ld rfl (B_12.one eF84 rfl)) rfl <| vl (ln Try.underlying55 rfl) rfl <| vl (blt rfl rfl) rfl <| vl (as_ rfl) rfl <| nl <| nT <| rt <| tT <| tR (.tmp rfl .nil) <| ?_
  exact ⟨by unfold allowed; rw [if_pos h_15]; rfl, z_8⟩
 ·refine sk <| nT <| sq <| rg <| vl (ld rfl (B_12.all eF61 eF62)) rfl <| vl (fa eF137 rfl) rfl <| vl (ld rfl (B_5.one eF1 rfl)) rfl <| ca eF174 rfl rfl ((troopOf_any o.who a W _ (hW.keep z_8)).mono ?_)
  rintro e w_16 ⟨rfl, x_17⟩
  refine ⟨_, rfl, ?_⟩
  have q_18 := x_17.size
  have z_16 := Ext.tr z_8 x_17
  refine vl (mv rfl) rfl <| vl (ex rfl rfl) rfl <| vl (ex rfl rfl) rfl <| al rfl eF68 rfl rfl fun w_19 b_20 x_21 l_22 B_23 => ?_
  have q_24 := x_21.size
  have z_19 := Ext.tr z_16 x_21
  have q_25 := B_23.lt
  refine st (new := [.int .i64 ((((trOfD W.troops o.who).getD default)).id), .int .i64 ((((trOfD W.troops o.who).getD default)).owner), .int .i64 ((((trOfD W.troops o.who).getD default)).kind), .int .i64 ((((trOfD W.troops o.who).getD default)).spot.x), .int .i64 ((((trOfD W.troops o.who).getD default)).spot.y), .int .i64 ((((trOfD W.troops o.who).getD default)).life), .int .i64 ((((trOfD W.troops o.who).getD default)).load)]) rfl rfl B_23 rfl eF66 rfl rfl rfl fun w_26 m_27 B_23 => ?_
  have q_29 := m_27.size
  have z_26 := Ext.mod z_19 m_27 (ge1 (by omega))
  have q_28 := m_27.size
  refine vl (as_ rfl) rfl <| nl <| nT <| sq <| rg <| vl (mv rfl) rfl <| vl (mv rfl) rfl <| vQ rfl rfl rfl rfl (fun hc => fa eF57 rfl) rfl <| vQ rfl rfl rfl rfl (fun hc => ld (gt hc rfl) (B_23.one eF1 rfl)) rfl <| vQ rfl rfl rfl rfl (fun hc => fa eF142 rfl) rfl <| ?_
  have B_5 := B_5.later (Ext.tr x_17 x_21)
  have B_5 := B_5.mod m_27 (nm1 (by omega))
  refine vQ rfl rfl rfl rfl (fun hc => ld (gt hc rfl) (B_5.one eF1 rfl)) rfl <| vQ rfl rfl rfl rfl (fun hc => beq (gt hc rfl) (gt hc rfl)) rfl <| vl (pA rfl rfl rfl rfl) rfl <| vl (as_ rfl) rfl <| nl <| nT <| rt <| tR (.tmp rfl .nil) <| ?_
  exact ⟨by unfold allowed; rw [if_neg h_15]; rfl, z_26⟩
theorem blind_any (pt : Odr) (a : Wd.At) (W : Wd) (b : Nat) (w : World) (hW : Wd.Has w a W) (HB : Blk w b (Wd.cells a W) 58 (0, 0)) :
  Calls Try.prog 34 #[.agg #[.int .i64 pt.by_, .int .i64 pt.kind, .int .i64 pt.who, .int .i64 pt.spot.x, .int .i64 pt.spot.y, .int .i64 pt.what], .pointer (some ⟨b, 0, none⟩)] w (fun e w' => e = .returned (.bool (!allowed W pt)) ∧ Ext w w') := by
 have qB := HB.lt
 refine calls_W (n := 8) Try.func34 rfl rfl rfl ?_
 refine sq <| rg <| bx rfl rfl rfl rfl fun w_1 b_2 x_3 l_4 B_5 => ?_
 have q_6 := x_3.size
 have z_1 := Ext.tr (Ext.rf w) x_3
 have q_7 := B_5.lt
 refine vl (as_ rfl) rfl <| nl <| nT <| sq <| rg <| vl (ld rfl (B_5.all eF140 eF141)) rfl <| ?_
 have HB := HB.later x_3
 refine vl (ld rfl (HB.all eF61 eF62)) rfl <| ca eF175 rfl rfl ((allowed_any pt a W _ (hW.keep z_1)).mono ?_)
 rintro e w_8 ⟨rfl, x_9⟩
 refine ⟨_, rfl, ?_⟩
 have q_10 := x_9.size
 have z_8 := Ext.tr z_1 x_9
 refine vl (nt rfl) rfl <| vl (as_ rfl) rfl <| nl <| nT <| rt <| tR (.tmp rfl .nil) <| ?_
 exact ⟨rfl, z_8⟩
theorem tickBlind_bad (a : Wd.At) (W : Wd) (A : Option Addr) (c : Nat) (l : List Odr) (w : World) (hW : Wd.Has w a W) (hl : Odr.rep.SHas 48 w A c l) (h0 : turnE W l ≠ 0) :
  Calls Try.prog 9 #[.agg ((Wd.cells a W).toArray), .slice A l.length c] w (fun e w' => e = .returned (.bool true) ∧ Ext w w') := by
 have k1 : (turnE W l != 0) = true := by simpa using h0
 refine calls_W (n := 49) Try.func9 rfl rfl rfl ?_
 refine sq <| rg <| bx rfl rfl rfl rfl fun w_1 b_2 x_3 l_4 B_5 => ?_
 have q_6 := x_3.size
 have z_1 := Ext.tr (Ext.rf w) x_3
 have q_7 := B_5.lt
 refine vl (as_ rfl) rfl <| nl <| nT <| sq <| rg <| vl (ld rfl (B_5.all eF61 eF62)) rfl <| vl (mv rfl) rfl <| ca eF170 rfl rfl ((turn_any a W _ _ l _ (hW.keep z_1) (hl.keep z_1)).mono ?_)
 rintro e w_17 ⟨a8, A80, c80, A81, c81, A82, c82, rfl, HO8, OR80, OR81, OR82, hd8, x_18⟩
 refine ⟨_, rfl, ?_⟩
 have q_19 := x_18.size
 have z_17 := Ext.tr z_1 x_18
 have u_9 := fun q hq => (HO8.lt q hq).2
 have lo_10 := fun q hq => (HO8.lt q hq).1
 have u_11 := fun q hq => (OR80.lt q hq).2
 have lo_12 := fun q hq => (OR80.lt q hq).1
 have u_13 := fun q hq => (OR81.lt q hq).2
 have lo_14 := fun q hq => (OR81.lt q hq).1
 have u_15 := fun q hq => (OR82.lt q hq).2
 have lo_16 := fun q hq => (OR82.lt q hq).1
 have dd80 : ∀ q ∈ Rep.blkOf A80, q ∈ WOwn.foot a8 → False := fun q hq => hd8 q (.inl hq)
 have dw80 : ∀ q ∈ WOwn.foot a8, q ∈ Rep.blkOf A80 → False := fun q h1 h2 => dd80 q h2 h1
 have dd81 : ∀ q ∈ Rep.blkOf A81, q ∈ WOwn.foot a8 → False := fun q hq => hd8 q (.inr (.inl hq))
 have dw81 : ∀ q ∈ WOwn.foot a8, q ∈ Rep.blkOf A81 → False := fun q h1 h2 => dd81 q h2 h1
 have dd82 : ∀ q ∈ Rep.blkOf A82, q ∈ WOwn.foot a8 → False := fun q hq => hd8 q (.inr (.inr hq))
 have dw82 : ∀ q ∈ WOwn.foot a8, q ∈ Rep.blkOf A82 → False := fun q h1 h2 => dd82 q h2 h1
 refine vl (mv rfl) rfl <| vl (ex rfl rfl) rfl <| vl (ex rfl rfl) rfl <| vl (ex rfl rfl) rfl <| al rfl eF80 rfl rfl fun w_20 b_21 x_22 l_23 B_24 => ?_
 have q_25 := x_22.size
 have z_20 := Ext.tr z_17 x_22
 have q_26 := B_24.lt
 refine al rfl eF158 rfl rfl fun w_27 b_28 x_29 l_30 B_31 => ?_
 have q_32 := x_29.size
 have z_27 := Ext.tr z_20 x_29
 have q_33 := B_31.lt
 have B_24 := B_24.later x_29
 refine st rfl rfl B_24 rfl eF62 rfl rfl rfl fun w_34 m_35 B_24 => ?_
 have q_37 := m_35.size
 have z_34 := Ext.mod z_27 m_35 (ge1 (by omega))
 have q_36 := m_35.size
 have B_31 := B_31.mod m_35 (nm1 (by omega))
 refine st (new := [.slice A80 ((turnG W l).length) c80, .slice A81 ((turnM W l).length) c81, .slice A82 ((turnD W l).length) c82]) rfl rfl B_31 rfl eF160 rfl rfl rfl fun w_38 m_39 B_31 => ?_
 have q_41 := m_39.size
 have z_38 := Ext.mod z_34 m_39 (ge1 (by omega))
 have q_40 := m_39.size
 refine vl (as_ rfl) rfl <| nl <| nT <| sq <| sq <| rg <| ca eF176 rfl rfl ((tickLives_any _).mono ?_)
 rintro e w_42 ⟨rfl, x_43⟩
 refine ⟨_, rfl, ?_⟩
 have q_44 := x_43.size
 have z_42 := Ext.tr z_38 x_43
 refine vl (nt rfl) rfl <| vl (mv rfl) rfl <| ug rfl rfl rfl <| vl (mv rfl) rfl <| ug rfl rfl rfl <| vl (bne rfl rfl) rfl <| vl (pkF rfl (evb rfl k1)) rfl <| nl <| nT <| cT rfl <| sq <| rg <| ca eF176 rfl rfl ((tickLives_any _).mono ?_)
 rintro e w_45 ⟨rfl, x_46⟩
 refine ⟨_, rfl, ?_⟩
 have q_47 := x_46.size
 have z_45 := Ext.tr z_42 x_46
 refine vl (as_ rfl) rfl <| nl <| nT <| rt <| tT <| tR (.tmp rfl .nil) <| ?_
 exact ⟨rfl, z_45⟩
theorem tickBlind_ok (a : Wd.At) (W : Wd) (A : Option Addr) (c : Nat) (l : List Odr) (w : World) (hW : Wd.Has w a W) (hl : Odr.rep.SHas 48 w A c l) (h0 : turnE W l = 0) :
  Calls Try.prog 9 #[.agg ((Wd.cells a W).toArray), .slice A l.length c] w (fun e w' => e = .returned (.bool true) ∧ Ext w w') := by
 have k1 : (turnE W l != 0) = false := by simpa using h0
 obtain ⟨y1, y2, y3, y4, y5⟩ := turn_blind h0
 refine calls_W (n := 49) Try.func9 rfl rfl rfl ?_
 refine sq <| rg <| bx rfl rfl rfl rfl fun w_1 b_2 x_3 l_4 B_5 => ?_
 have q_6 := x_3.size
 have z_1 := Ext.tr (Ext.rf w) x_3
 have q_7 := B_5.lt
 refine vl (as_ rfl) rfl <| nl <| nT <| sq <| rg <| vl (ld rfl (B_5.all eF61 eF62)) rfl <| vl (mv rfl) rfl <| ca eF170 rfl rfl ((turn_any a W _ _ l _ (hW.keep z_1) (hl.keep z_1)).mono ?_)
 rintro e w_17 ⟨a8, A80, c80, A81, c81, A82, c82, rfl, HO8, OR80, OR81, OR82, hd8, x_18⟩
 refine ⟨_, rfl, ?_⟩
 have q_19 := x_18.size
 have z_17 := Ext.tr z_1 x_18
 have u_9 := fun q hq => (HO8.lt q hq).2
 have lo_10 := fun q hq => (HO8.lt q hq).1
 have u_11 := fun q hq => (OR80.lt q hq).2
 have lo_12 := fun q hq => (OR80.lt q hq).1
 have u_13 := fun q hq => (OR81.lt q hq).2
 have lo_14 := fun q hq => (OR81.lt q hq).1
 have u_15 := fun q hq => (OR82.lt q hq).2
 have lo_16 := fun q hq => (OR82.lt q hq).1
 have dd80 : ∀ q ∈ Rep.blkOf A80, q ∈ WOwn.foot a8 → False := fun q hq => hd8 q (.inl hq)
 have dw80 : ∀ q ∈ WOwn.foot a8, q ∈ Rep.blkOf A80 → False := fun q h1 h2 => dd80 q h2 h1
 have dd81 : ∀ q ∈ Rep.blkOf A81, q ∈ WOwn.foot a8 → False := fun q hq => hd8 q (.inr (.inl hq))
 have dw81 : ∀ q ∈ WOwn.foot a8, q ∈ Rep.blkOf A81 → False := fun q h1 h2 => dd81 q h2 h1
 have dd82 : ∀ q ∈ Rep.blkOf A82, q ∈ WOwn.foot a8 → False := fun q hq => hd8 q (.inr (.inr hq))
 have dw82 : ∀ q ∈ WOwn.foot a8, q ∈ Rep.blkOf A82 → False := fun q h1 h2 => dd82 q h2 h1
 refine vl (mv rfl) rfl <| vl (ex rfl rfl) rfl <| vl (ex rfl rfl) rfl <| vl (ex rfl rfl) rfl <| al rfl eF80 rfl rfl fun w_20 b_21 x_22 l_23 B_24 => ?_
 have q_25 := x_22.size
 have z_20 := Ext.tr z_17 x_22
 have q_26 := B_24.lt
 refine al rfl eF158 rfl rfl fun w_27 b_28 x_29 l_30 B_31 => ?_
 have q_32 := x_29.size
 have z_27 := Ext.tr z_20 x_29
 have q_33 := B_31.lt
 have B_24 := B_24.later x_29
 refine st rfl rfl B_24 rfl eF62 rfl rfl rfl fun w_34 m_35 B_24 => ?_
 have q_37 := m_35.size
 have z_34 := Ext.mod z_27 m_35 (ge1 (by omega))
 have q_36 := m_35.size
 have B_31 := B_31.mod m_35 (nm1 (by omega))
 refine st (new := [.slice A80 ((turnG W l).length) c80, .slice A81 ((turnM W l).length) c81, .slice A82 ((turnD W l).length) c82]) rfl rfl B_31 rfl eF160 rfl rfl rfl fun w_38 m_39 B_31 => ?_
 have q_41 := m_39.size
 have z_38 := Ext.mod z_34 m_39 (ge1 (by omega))
 have q_40 := m_39.size
 refine vl (as_ rfl) rfl <| nl <| nT <| sq <| sq <| rg <| ca eF176 rfl rfl ((tickLives_any _).mono ?_)
 rintro e w_42 ⟨rfl, x_43⟩
 refine ⟨_, rfl, ?_⟩
 have q_44 := x_43.size
 have z_42 := Ext.tr z_38 x_43
 refine vl (nt rfl) rfl <| vl (mv rfl) rfl <| ug rfl rfl rfl <| vl (mv rfl) rfl <| ug rfl rfl rfl <| vl (bne rfl rfl) rfl <| vl (pkF rfl (evb rfl k1)) rfl <| nl <| nT <| cF rfl <| sk <| nT <| sq <| rg <| vl (mv rfl) rfl <| ?_
 have B_5 := B_5.later (Ext.tr x_18 (Ext.tr x_22 x_29))
 have B_5 := B_5.mod m_35 (nm1 (by omega))
 have B_5 := B_5.mod m_39 (nm1 (by omega))
 have B_5 := B_5.later x_43
 have V5 := B_5
 refine ca eF177 rfl rfl ((clone_O _ _ l _ (hl.keep z_42)).mono ?_)
 rintro e w_48 ⟨A45, c45, rfl, OC45, hn45, x_49⟩
 refine ⟨_, rfl, ?_⟩
 have q_50 := x_49.size
 have z_48 := Ext.tr z_42 x_49
 have u_46 := fun q hq => (OC45.lt q hq).2
 have lo_47 := fun q hq => (OC45.lt q hq).1
 refine vl (mf rfl rfl) rfl <| ca eF179 rfl rfl ((delF_O w_42 34 [.pointer (some ⟨b_2, 0, none⟩)] (fun x => !allowed W x) _ _ _ _ (by first | exact Ext.rf _ | assumption) OC45 eF178 (fun x hx w' h => blind_any x a W b_2 w' (hW.keep (Ext.tr z_42 h)) (V5.later h))).mono ?_)
 rintro e w_53 ⟨rfl, OD_51, m_52⟩
 refine ⟨_, rfl, ?_⟩
 have q_54 := m_52.size
 have z_53 := Ext.mod z_48 m_52 (fun q hq => by have := (OC45.lt q hq).1; omega)
 refine vl (as_ rfl) rfl <| nl <| nT <| sq <| rg <| ?_
 have B_5 := B_5.later x_49
 have d_55 : ∀ q ∈ Rep.blkOf A45, q = b_2 → False := fun q hq hb => by (have := lo_47 q hq; omega)
 have B_5 := B_5.mod m_52 (fun hq => d_55 _ hq rfl)
 refine vl (ld rfl (B_5.all eF61 eF62)) rfl <| vl (mv rfl) rfl <| ca eF170 rfl rfl ((turn_any a W _ _ (mineT W l) _ (hW.keep z_53) OD_51.has).mono ?_)
 rintro e w_65 ⟨a56, A560, c560, A561, c561, A562, c562, rfl, HO56, OR560, OR561, OR562, hd56, x_66⟩
 refine ⟨_, rfl, ?_⟩
 have q_67 := x_66.size
 have z_65 := Ext.tr z_53 x_66
 have u_57 := fun q hq => (HO56.lt q hq).2
 have lo_58 := fun q hq => (HO56.lt q hq).1
 have u_59 := fun q hq => (OR560.lt q hq).2
 have lo_60 := fun q hq => (OR560.lt q hq).1
 have u_61 := fun q hq => (OR561.lt q hq).2
 have lo_62 := fun q hq => (OR561.lt q hq).1
 have u_63 := fun q hq => (OR562.lt q hq).2
 have lo_64 := fun q hq => (OR562.lt q hq).1
 have dd560 : ∀ q ∈ Rep.blkOf A560, q ∈ WOwn.foot a56 → False := fun q hq => hd56 q (.inl hq)
 have dw560 : ∀ q ∈ WOwn.foot a56, q ∈ Rep.blkOf A560 → False := fun q h1 h2 => dd560 q h2 h1
 have dd561 : ∀ q ∈ Rep.blkOf A561, q ∈ WOwn.foot a56 → False := fun q hq => hd56 q (.inr (.inl hq))
 have dw561 : ∀ q ∈ WOwn.foot a56, q ∈ Rep.blkOf A561 → False := fun q h1 h2 => dd561 q h2 h1
 have dd562 : ∀ q ∈ Rep.blkOf A562, q ∈ WOwn.foot a56 → False := fun q hq => hd56 q (.inr (.inr hq))
 have dw562 : ∀ q ∈ WOwn.foot a56, q ∈ Rep.blkOf A562 → False := fun q h1 h2 => dd562 q h2 h1
 refine vl (mv rfl) rfl <| vl (ex rfl rfl) rfl <| vl (ex rfl rfl) rfl <| vl (ex rfl rfl) rfl <| al rfl eF80 rfl rfl fun w_68 b_69 x_70 l_71 B_72 => ?_
 have q_73 := x_70.size
 have z_68 := Ext.tr z_65 x_70
 have q_74 := B_72.lt
 refine al rfl eF158 rfl rfl fun w_75 b_76 x_77 l_78 B_79 => ?_
 have q_80 := x_77.size
 have z_75 := Ext.tr z_68 x_77
 have q_81 := B_79.lt
 have B_72 := B_72.later x_77
 refine st rfl rfl B_72 rfl eF62 rfl rfl rfl fun w_82 m_83 B_72 => ?_
 have q_85 := m_83.size
 have z_82 := Ext.mod z_75 m_83 (ge1 (by omega))
 have q_84 := m_83.size
 have B_79 := B_79.mod m_83 (nm1 (by omega))
 refine st (new := [.slice A560 ((turnG W (mineT W l)).length) c560, .slice A561 ((turnM W (mineT W l)).length) c561, .slice A562 ((turnD W (mineT W l)).length) c562]) rfl rfl B_79 rfl eF160 rfl rfl rfl fun w_86 m_87 B_79 => ?_
 have q_89 := m_87.size
 have z_86 := Ext.mod z_82 m_87 (ge1 (by omega))
 have q_88 := m_87.size
 refine vl (as_ rfl) rfl <| nl <| nT <| sq <| rg <| vl (mv rfl) rfl <| vl (beq rfl rfl) rfl <| vl (mv rfl) rfl <| ?_
 have B_24 := B_24.mod m_39 (nm1 (by omega))
 have B_24 := B_24.later (Ext.tr x_43 x_49)
 have d_90 : ∀ q ∈ Rep.blkOf A45, q = b_21 → False := fun q hq hb => by (have := lo_47 q hq; omega)
 have B_24 := B_24.mod m_52 (fun hq => d_90 _ hq rfl)
 have B_24 := B_24.later (Ext.tr x_66 (Ext.tr x_70 x_77))
 have B_24 := B_24.mod m_83 (nm1 (by omega))
 have B_24 := B_24.mod m_87 (nm1 (by omega))
 refine vQ rfl rfl rfl rfl (fun hc => ld rfl (B_24.all eF61 eF62)) rfl <| ?_
 have B_72 := B_72.mod m_87 (nm1 (by omega))
 refine vQ rfl rfl rfl rfl (fun hc => ld rfl (B_72.all eF61 eF62)) rfl <| ?_
 have HO8 := HO8.later (Ext.tr x_22 x_29)
 have HO8 := HO8.mod m_35 (fk1 u_9 (by omega))
 have HO8 := HO8.mod m_39 (fk1 u_9 (by omega))
 have HO8 := HO8.later (Ext.tr x_43 x_49)
 have HO8 := HO8.mod m_52 (fun q hq h => by exfalso; (have := lo_47 q h; (have := u_9 q hq; omega)))
 have HO8 := HO8.later (Ext.tr x_66 (Ext.tr x_70 x_77))
 have HO8 := HO8.mod m_83 (fk1 u_9 (by omega))
 have HO8 := HO8.mod m_87 (fk1 u_9 (by omega))
 have HO56 := HO56.later (Ext.tr x_70 x_77)
 have HO56 := HO56.mod m_83 (fk1 u_57 (by omega))
 have HO56 := HO56.mod m_87 (fk1 u_57 (by omega))
 refine vC rfl rfl rfl rfl eF180 (fun hc => ec (gt hc rfl) (ec (gt hc rfl) rfl)) (fun hc => sameWorld_any _ a8 (turnW W l) a56 (turnW W (mineT W l)) HO8.has HO56.has) rfl fun w_91 x_92 => ?_
 have q_93 := x_92.size
 have z_91 := Ext.tr z_86 x_92
 refine vl (pA rfl rfl rfl rfl) rfl <| vl (mv rfl) rfl <| ?_
 have B_31 := B_31.later (Ext.tr x_43 x_49)
 have d_94 : ∀ q ∈ Rep.blkOf A45, q = b_28 → False := fun q hq hb => by (have := lo_47 q hq; omega)
 have B_31 := B_31.mod m_52 (fun hq => d_94 _ hq rfl)
 have B_31 := B_31.later (Ext.tr x_66 (Ext.tr x_70 x_77))
 have B_31 := B_31.mod m_83 (nm1 (by omega))
 have B_31 := B_31.mod m_87 (nm1 (by omega))
 have B_31 := B_31.later x_92
 refine vQ rfl rfl rfl rfl (fun hc => ld rfl (B_31.all eF161 eF160)) rfl <| ?_
 have B_79 := B_79.later x_92
 refine vQ rfl rfl rfl rfl (fun hc => ld rfl (B_79.all eF161 eF160)) rfl <| ?_
 have OR80 := OR80.later (Ext.tr x_22 x_29)
 have OR80 := OR80.mod m_35 (fk1 u_11 (by omega))
 have OR80 := OR80.mod m_39 (fk1 u_11 (by omega))
 have OR80 := OR80.later (Ext.tr x_43 x_49)
 have OR80 := OR80.mod m_52 (fun q hq h => by exfalso; (have := lo_47 q h; (have := u_11 q hq; omega)))
 have OR80 := OR80.later (Ext.tr x_66 (Ext.tr x_70 x_77))
 have OR80 := OR80.mod m_83 (fk1 u_11 (by omega))
 have OR80 := OR80.mod m_87 (fk1 u_11 (by omega))
 have OR80 := OR80.later x_92
 have OR81 := OR81.later (Ext.tr x_22 x_29)
 have OR81 := OR81.mod m_35 (fk1 u_13 (by omega))
 have OR81 := OR81.mod m_39 (fk1 u_13 (by omega))
 have OR81 := OR81.later (Ext.tr x_43 x_49)
 have OR81 := OR81.mod m_52 (fun q hq h => by exfalso; (have := lo_47 q h; (have := u_13 q hq; omega)))
 have OR81 := OR81.later (Ext.tr x_66 (Ext.tr x_70 x_77))
 have OR81 := OR81.mod m_83 (fk1 u_13 (by omega))
 have OR81 := OR81.mod m_87 (fk1 u_13 (by omega))
 have OR81 := OR81.later x_92
 have OR82 := OR82.later (Ext.tr x_22 x_29)
 have OR82 := OR82.mod m_35 (fk1 u_15 (by omega))
 have OR82 := OR82.mod m_39 (fk1 u_15 (by omega))
 have OR82 := OR82.later (Ext.tr x_43 x_49)
 have OR82 := OR82.mod m_52 (fun q hq h => by exfalso; (have := lo_47 q h; (have := u_15 q hq; omega)))
 have OR82 := OR82.later (Ext.tr x_66 (Ext.tr x_70 x_77))
 have OR82 := OR82.mod m_83 (fk1 u_15 (by omega))
 have OR82 := OR82.mod m_87 (fk1 u_15 (by omega))
 have OR82 := OR82.later x_92
 have OR560 := OR560.later (Ext.tr x_70 x_77)
 have OR560 := OR560.mod m_83 (fk1 u_59 (by omega))
 have OR560 := OR560.mod m_87 (fk1 u_59 (by omega))
 have OR560 := OR560.later x_92
 have OR561 := OR561.later (Ext.tr x_70 x_77)
 have OR561 := OR561.mod m_83 (fk1 u_61 (by omega))
 have OR561 := OR561.mod m_87 (fk1 u_61 (by omega))
 have OR561 := OR561.later x_92
 have OR562 := OR562.later (Ext.tr x_70 x_77)
 have OR562 := OR562.mod m_83 (fk1 u_63 (by omega))
 have OR562 := OR562.mod m_87 (fk1 u_63 (by omega))
 have OR562 := OR562.later x_92
 refine vC rfl rfl rfl rfl eF181 (fun hc => ec (gt hc rfl) (ec (gt hc rfl) rfl)) (fun hc => sameReport_any _ _ _ _ _ _ _ _ _ _ _ _ (turnG W l) (turnM W l) (turnG W (mineT W l)) (turnM W (mineT W l)) (turnD W l) (turnD W (mineT W l)) _ OR80.has OR81.has OR82.has OR560.has OR561.has OR562.has) rfl fun w_95 x_96 => ?_
 have q_97 := x_96.size
 have z_95 := Ext.tr z_91 x_96
 refine vl (pA rfl rfl rfl rfl) rfl <| vl (as_ rfl) rfl <| nl <| nT <| rt <| tR (.tmp rfl .nil) <| ?_
 exact ⟨ret_true (by rw [y1, y2, y3, y4, y5]; simp), z_95⟩
theorem tickBlind_any (c0 : Array Value) (a1 : Option Addr) (len1 cap1 : Nat) (w : World) (h0 : (.cons (.cons (.int .i64) (.cons (.int .i64) (.cons (.slice (.int .i64) 8) .nil))) (.cons (.slice (.cons (.int .i64) (.cons (.int .i64) .nil)) 16) (.cons (.slice (.int .i64) 8) (.cons (.slice (.int .i64) 8) (.cons (.slice (.cons (.int .i64) (.cons (.int .i64) (.cons (.int .i64) (.cons (.cons (.int .i64) (.cons (.int .i64) .nil)) (.cons (.int .i64) (.cons (.int .i64) .nil)))))) 56) (.cons (.int .i64) (.cons (.int .i64) .nil)))))) : Sh).Ok w c0.toList) (h1 : (.slice (.cons (.int .i64) (.cons (.int .i64) (.cons (.int .i64) (.cons (.cons (.int .i64) (.cons (.int .i64) .nil)) (.cons (.int .i64) .nil))))) 48 : Sh).Ok w [.slice a1 len1 cap1]) :
  Calls Try.prog 9 #[.agg c0, .slice a1 len1 cap1] w fun e w' => e = .returned (.bool true) ∧ Below w.heap.size w w' := by
 obtain ⟨a, W, e, hW⟩ := Wd.opens w _ (show Wd.sh.Ok w c0.toList from h0)
 have hc : c0 = (Wd.cells a W).toArray := by rw [← e]
 subst hc
 obtain ⟨A, c, l, e1, hl⟩ := Rep.opens_slice (R := Odr.rep) (by_ := 48) Odr.opens rfl (by decide) h1
 simp only [List.cons.injEq, Value.slice.injEq, and_true] at e1
 obtain ⟨rfl, rfl, rfl⟩ := e1
 by_cases k : turnE W l = 0
 ·exact tickBlind_ok a W _ _ l w hW hl k
 ·exact tickBlind_bad a W _ _ l w hW hl k
end
end Go.Proofs.Ytccankldeogdlaa
