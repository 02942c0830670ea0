import Derived.Test.YtlikikpgmmkjbaaGreatGra
import Derived.Test.YtlikikpgmmkjbaaGreatGooO
import Derived.Test.YtlikikpgmmkjbaaGreatHitG
import Derived.Test.YtlikikpgmmkjbaaGreatGol
import Derived.Test.YtlikikpgmmkjbaaGreatGolR
import Derived.Test.YtlikikpgmmkjbaaGreatBas
import Derived.Test.YtlikikpgmmkjbaaGreatCelK
import Derived.Test.YtlikikpgmmkjbaaGreatGooD
import Derived.Test.YtlikikpgmmkjbaaGreatBlw
import Derived.Test.YtlikikpgmmkjbaaGreatEqI
import Derived.Test.YtlikikpgmmkjbaaGreatTroI
set_option linter.unusedVariables false
set_option linter.unusedSimpArgs false
set_option maxRecDepth 100000
set_option maxHeartbeats 4000000
namespace Go.Proofs.YtlikikpgmmkjbaaGreat
section
open Go.RowKit
theorem GooQ_el_S_bool:ElT Tryz.prog repB 58 4 1:=ElT.mk_ (z:= .bool false) (k:=1) Tryz.underlying58 (by kernel_rfl) rfl rfl (by decide) (λ j u h=>raw0B j u h)
theorem Wd.deed_mine {W:Wd} {d:Ded} (h:d.kind=1):W.deed d=W.mine d:=by unfold Wd.deed;rw [if_pos h]
theorem Wd.deed_drop {W:Wd} {d:Ded} (h:d.kind=2):W.deed d=W.drop d:=by unfold Wd.deed;rw [if_neg (by omega),if_pos h]
theorem Wd.deed_hire {W:Wd} {d:Ded} (h:d.kind=3):W.deed d=W.hire d:=by unfold Wd.deed;rw [if_neg (by omega),if_neg (by omega),if_pos h]
theorem Wd.deed_no {W:Wd} {d:Ded} (h1:¬ d.kind=1) (h2:¬ d.kind=2) (h3:¬ d.kind=3):W.deed d=none:=by unfold Wd.deed;rw [if_neg h1,if_neg h2,if_neg h3]
theorem deed_at {W:Wd} {V:Option Wd} {w w1:World} {Z S:Nat} {a:Wd.At} {f:FuncId} {args:Array Value} (h:Calls Tryz.prog f args w1 (ShopPost W V w1 Z S a)) (x:Ext w w1):Calls Tryz.prog f args w1 (ShopPost W V w Z S a):=
 h.mono λ e w2 ⟨a2,h1,h2,h3,h4⟩=>⟨a2,h1,h2,λ q hq=>(h3 q hq).imp id λ h=>Nat.le_trans x.size h,(Mod.of_ext x).trans h4⟩
theorem mine_any2 (d:Ded) (w:World) (Z S:Nat) (a:Wd.At) (W:Wd) (h:Shop w Z S a W) (hG:Good W):Calls Tryz.prog 138 #[.pointer (some ⟨S,0,none⟩), .agg #[.int .i64 d.kind, .int .i64 d.who, .int .i64 d.spot.x, .int .i64 d.spot.y, .int .i64 d.what]] w (ShopPost W (W.mine d) w Z S a):=by
 cases hf:W.troops.findIdx? (isId d.who) with
 | none=>exact mine2_none d w Z S a W h hG hf
 | some k=>obtain ⟨t,ht,_⟩:=findId hf;exact mine2 d w Z S a W h hG k t hf ht
theorem drop_any2 (d:Ded) (w:World) (Z S:Nat) (a:Wd.At) (W:Wd) (h:Shop w Z S a W) (hG:Good W):Calls Tryz.prog 139 #[.pointer (some ⟨S,0,none⟩), .agg #[.int .i64 d.kind, .int .i64 d.who, .int .i64 d.spot.x, .int .i64 d.spot.y, .int .i64 d.what]] w (ShopPost W (W.drop d) w Z S a):=by
 cases hf:W.troops.findIdx? (isId d.who) with
 | none=>exact drop2_none d w Z S a W h hG hf
 | some k=>obtain ⟨t,ht,_⟩:=findId hf;exact drop2 d w Z S a W h hG k t hf ht
theorem hire_any2 (d:Ded) (w:World) (Z S:Nat) (a:Wd.At) (W:Wd) (h:Shop w Z S a W) (hG:Good W):Calls Tryz.prog 140 #[.pointer (some ⟨S,0,none⟩), .agg #[.int .i64 d.kind, .int .i64 d.who, .int .i64 d.spot.x, .int .i64 d.spot.y, .int .i64 d.what]] w (ShopPost W (W.hire d) w Z S a):=hire2 d w Z S a W h hG
theorem Shop.mod {w w1:World} {Z S:Nat} {a:Wd.At} {W:Wd} {T:List Nat} (h:Shop w Z S a W) (m:Mod T w w1) (hd:∀ q∈T,q≠S∧q∉WOwn.foot a):Shop w1 Z S a W :=
 ⟨h.blk.mod m λ hq=>(hd _ hq).1 rfl,h.own.mod m λ q hq hT=>(hd q hT).2 hq,h.far,h.low⟩
def Wd.doE (W:Wd) (l:List Ded):Int:=if W.chk≠0 then W.chk else if 200<l.length then 2 else 0
def Wd.doW (W:Wd) (l:List Ded):Wd:=if W.doE l=0 then (W.deeds l).1 else Wd.zero
def Wd.doB (W:Wd) (l:List Ded):List Bool:=if W.doE l=0 then (W.deeds l).2 else []
def DoPost (W:Wd) (l:List Ded) (w:World) (e:Ending) (w':World):Prop :=
 ∃ a' A c,e= .returned (.tuple #[.agg (Wd.cells a' (W.doW l)).toArray, .slice A (W.doB l).length c, .int .i64 (W.doE l)])∧WOwn w' w.heap.size a' (W.doW l)∧repB.SOwn 4 1 w' w.heap.size (Rep.blkOf A) A c (W.doB l)∧(∀ q∈Rep.blkOf A,q∉WOwn.foot a')∧Ext w w'
theorem do_bad {W:Wd} {l:List Ded} (h:¬ W.chk=0):W.doW l=Wd.zero∧W.doB l= []∧W.doE l=W.chk:=by
 have he:W.doE l=W.chk:=by unfold Wd.doE;rw [if_pos h]
 unfold Wd.doW Wd.doB
 rw [he,if_neg h,if_neg h]
 exact ⟨rfl,rfl,rfl⟩
theorem do_large {W:Wd} {l:List Ded} (h:W.chk=0) (hl:200<l.length):W.doW l=Wd.zero∧W.doB l= []∧W.doE l=2:=by
 have he:W.doE l=2:=by unfold Wd.doE;rw [if_neg (by simpa using h),if_pos hl]
 unfold Wd.doW Wd.doB
 rw [he]
 exact ⟨rfl,rfl,rfl⟩
theorem do_ok3 {W:Wd} {l:List Ded} (h:W.chk=0) (hl:l.length≤200):W.doE l=0:=by unfold Wd.doE;rw [if_neg (by simpa using h),if_neg (by omega)]
theorem do_ok1 {W:Wd} {l:List Ded} (h:W.chk=0) (hl:l.length≤200):W.doW l=(W.deeds l).1:=by unfold Wd.doW;rw [if_pos (do_ok3 h hl)]
theorem do_ok2 {W:Wd} {l:List Ded} (h:W.chk=0) (hl:l.length≤200):W.doB l=(W.deeds l).2:=by unfold Wd.doB;rw [if_pos (do_ok3 h hl)]
theorem deeds_snoc (W:Wd) (l:List Ded) (d:Ded):W.deeds (l++ [d])=(((W.deeds l).1.deed d).getD (W.deeds l).1,(W.deeds l).2++ [((W.deeds l).1.deed d).isSome]):=by
 induction l generalizing W with
 | nil=>simp only [List.nil_append,Wd.deeds];cases W.deed d<;>rfl
 | cons x r ih =>
  simp only [List.cons_append,Wd.deeds]
  cases W.deed x with
  | none=>simp only [ih];rfl
  | some V=>simp only [ih];rfl
theorem deeds_take {W:Wd} {l:List Ded} {k:Nat} (hk:k<l.length):W.deeds (l.take (k+1))=(((W.deeds (l.take k)).1.deed (l.getD k default)).getD (W.deeds (l.take k)).1,(W.deeds (l.take k)).2++ [((W.deeds (l.take k)).1.deed (l.getD k default)).isSome]):=by
 rw [← deeds_snoc,List.take_succ_eq_append_getElem hk]
 congr 3
 rw [List.getD_eq_getElem?_getD,List.getElem?_eq_getElem hk];rfl
theorem deeds_len (W:Wd) (l:List Ded):(W.deeds l).2.length=l.length:=by
 induction l generalizing W with
 | nil=>rfl
 | cons x r ih =>
  simp only [Wd.deeds]
  cases W.deed x with
  | none=>simp only [List.length_cons,ih]
  | some V=>simp only [List.length_cons,ih]
theorem deed2 (d:Ded) (w:World) (Z S:Nat) (a:Wd.At) (W:Wd) (h:Shop w Z S a W) (hG:Good W):
  Calls Tryz.prog 100 #[.pointer (some ⟨S,0,none⟩), .agg #[.int .i64 d.kind, .int .i64 d.who, .int .i64 d.spot.x, .int .i64 d.spot.y, .int .i64 d.what]] w (ShopPost W (W.deed d) w Z S a):=by
 refine calls_W (n:=22) Tryz.func100 rfl rfl rfl ?_
 refine sg<|bx rfl rfl rfl rfl λ w_1 b_2 x_3 l_4 B_5=> ?_
 have:=x_3.size
 have z_1:=eT (Ext.rf w) x_3
 have hx:=z_1
 have q_7:=B_5.lt
 refine va rfl<|nK<|sq<|sg<|vL (fa eF118 rfl)<|vL (ld rfl (B_5.one eF1 rfl))<|nK<|bk<|sg<|vL (beq rfl rfl)<|va rfl<|nK<| ?_
 refine ceq rfl (λ h_8=> ?_) (λ h_8=> ?_)
 ·refine sg<|vm rfl<|vL (ld rfl (B_5.all eF119 eF120))<|ca eF121 rfl rfl ((deed_at (mine_any2 d _ Z S a W (h.later z_1) hG) hx).mono ?_)
  rintro e w_9 ⟨a2,rfl,hS,hf,hm⟩
  refine ⟨_,rfl, ?_⟩
  refine va rfl<|nK<|rt<|tB<|tT<|tR (.tmp rfl .nil)<| ?_
  exact ⟨a2,by rw [Wd.deed_mine ‹_›];rfl,by rw [Wd.deed_mine ‹_›];exact hS,hf,hm⟩
 ·refine sg<|vL (beq rfl rfl)<|va rfl<|nK<| ?_
  refine ceq rfl (λ h_10=> ?_) (λ h_10=> ?_)
  ·refine sg<|vm rfl<|vL (ld rfl (B_5.all eF119 eF120))<|ca eF122 rfl rfl ((deed_at (drop_any2 d _ Z S a W (h.later z_1) hG) hx).mono ?_)
   rintro e w_11 ⟨a2,rfl,hS,hf,hm⟩
   refine ⟨_,rfl, ?_⟩
   refine va rfl<|nK<|rt<|tB<|tT<|tR (.tmp rfl .nil)<| ?_
   exact ⟨a2,by rw [Wd.deed_drop ‹_›];rfl,by rw [Wd.deed_drop ‹_›];exact hS,hf,hm⟩
  ·refine sg<|vL (beq rfl rfl)<|va rfl<|nK<| ?_
   refine ceq rfl (λ h_12=> ?_) (λ h_12=> ?_)
   ·refine sg<|vm rfl<|vL (ld rfl (B_5.all eF119 eF120))<|ca eF123 rfl rfl ((deed_at (hire_any2 d _ Z S a W (h.later z_1) hG) hx).mono ?_)
    rintro e w_13 ⟨a2,rfl,hS,hf,hm⟩
    refine ⟨_,rfl, ?_⟩
    refine va rfl<|nK<|rt<|tB<|tT<|tR (.tmp rfl .nil)<| ?_
    exact ⟨a2,by rw [Wd.deed_hire ‹_›];rfl,by rw [Wd.deed_hire ‹_›];exact hS,hf,hm⟩
   ·refine sk<|nB<|nT<|sg<|va rfl<|nK<|rt<|tR (.tmp rfl .nil)<| ?_
    exact ⟨a,by rw [Wd.deed_no ‹_› ‹_› ‹_›];rfl,by rw [Wd.deed_no ‹_› ‹_› ‹_›];exact h.later z_1,λ q hq=> .inl hq,Mod.of_ext z_1⟩
theorem do_any (l:List Ded) (A:Option Addr) (c:Nat) (w:World) (a:Wd.At) (W:Wd) (hW:Wd.Has w a W) (hl:Ded.rep.SHas 40 w A c l):
  Calls Tryz.prog 63 #[.agg ((Wd.cells a W).toArray), .slice A l.length c] w (DoPost W l w):=by
 have hz0:=(Ext.rf w).size
 refine calls_W (n:=40) Tryz.func63 rfl rfl rfl ?_
 refine sg<|bx rfl rfl rfl rfl λ w_1 b_2 x_3 l_4 B_5=> ?_
 have:=x_3.size
 have z_1:=eT (Ext.rf w) x_3
 have q_7:=B_5.lt
 refine al rfl eF80 rfl rfl λ w_8 b_9 x_10 l_11 B_12=> ?_
 have:=x_10.size
 have z_8:=eT z_1 x_10
 have q_14:=B_12.lt
 refine va rfl<|va rfl<|nK<|sq<|sg<| ?_
 have B_5:=B_5.later x_10
 refine vL (ld rfl (B_5.all eF61 eF62))<|ca eF63 rfl rfl ((check_any a W _ (hW.keep z_8)).mono ?_)
 rintro e w_15 ⟨rfl,x_16⟩
 refine ⟨_,rfl, ?_⟩
 have:=x_16.size
 have z_15:=eT z_8 x_16
 refine va rfl<|nK<|sg<|vm rfl<|vL (bne rfl rfl)<|nK<| ?_
 refine cne rfl (λ h_18=> ?_) (λ h_18=> ?_)
 ·refine sg<|vL (v:= .agg #[.int .i64 0, .int .i64 0, .slice none 0 0, .slice none 0 0, .slice none 0 0, .slice none 0 0, .slice none 0 0, .int .i64 0, .int .i64 0]) (bd rfl (by kernel_rfl))<|vm rfl<| ?_
  have B_12:=B_12.later x_16
  refine st (new:= [.int .i64 0, .int .i64 0, .slice none 0 0, .slice none 0 0, .slice none 0 0, .slice none 0 0, .slice none 0 0, .int .i64 0, .int .i64 0]) rfl rfl B_12 rfl eF62 rfl rfl rfl λ w_19 m_20 B_12=> ?_
  have:=m_20.size
  have z_19:=Ext.mod z_15 m_20 (ge1 (by omega))
  have:=m_20.size
  refine va rfl<|va rfl<|nK<|rt<|tT<|tR (.cell rfl (B_12.all eF61 eF62) (.tmp rfl (.tmp rfl .nil)))<| ?_
  obtain ⟨e1,e2,e3⟩:=do_bad ‹_›
  exact ⟨⟨none,none,none,none,none,0,0,0,0,0⟩,none,0,by rw [e1,e2,e3];rfl,by rw [e1];exact WOwn.zero _ _,by rw [e2];exact Rep.SOwn.nil _,λ q hq=>by simp [Rep.blkOf] at hq,z_19⟩
 ·have hG:=Good.of_chk h_18
  refine sK<|sq<|sg<|vm rfl<|vL (ln Tryz.underlying125 rfl)<|vL (bgt rfl rfl)<|nK<| ?_
  refine clt rfl (λ h_23=> ?_) (λ h_23=> ?_)
  ·refine sg<|vL (v:= .agg #[.int .i64 0, .int .i64 0, .slice none 0 0, .slice none 0 0, .slice none 0 0, .slice none 0 0, .slice none 0 0, .int .i64 0, .int .i64 0]) (bd rfl (by kernel_rfl))<| ?_
   have B_12:=B_12.later x_16
   refine st (new:= [.int .i64 0, .int .i64 0, .slice none 0 0, .slice none 0 0, .slice none 0 0, .slice none 0 0, .slice none 0 0, .int .i64 0, .int .i64 0]) rfl rfl B_12 rfl eF62 rfl rfl rfl λ w_24 m_25 B_12=> ?_
   have:=m_25.size
   have z_24:=Ext.mod z_15 m_25 (ge1 (by omega))
   have:=m_25.size
   refine va rfl<|va rfl<|nK<|rt<|tT<|tR (.cell rfl (B_12.all eF61 eF62) (.tmp rfl (.tmp rfl .nil)))<| ?_
   obtain ⟨e1,e2,e3⟩:=do_large (W:=W) (l:=l) h_18 (by omega)
   exact ⟨⟨none,none,none,none,none,0,0,0,0,0⟩,none,0,by rw [e1,e2,e3];rfl,by rw [e1];exact WOwn.zero _ _,by rw [e2];exact Rep.SOwn.nil _,λ q hq=>by simp [Rep.blkOf] at hq,z_24⟩
  ·refine sK<|sg<| ?_
   have B_5:=B_5.later x_16
   refine vL (ld rfl (B_5.all eF61 eF62))<|ca eF124 rfl rfl ((own_any a W _ (hW.keep z_15)).mono ?_)
   rintro e w_29 ⟨a1,rfl,HO,x_30⟩
   refine ⟨_,rfl, ?_⟩
   have:=x_30.size
   have z_29:=eT z_15 x_30
   have u_28:=λ q hq=>(HO.lt q hq).2
   have lo:=λ q hq=>(HO.lt q hq).1
   refine vL (v:= .agg #[.int .i64 W.field.wide, .int .i64 W.field.high, .slice a1.P W.field.places.length a1.p, .slice a1.B W.bases.length a1.b, .slice a1.S W.stocks.length a1.s, .slice a1.M W.mines.length a1.m, .slice a1.T W.troops.length a1.t, .int .i64 W.next, .int .i64 W.now]) (bd rfl (by kernel_rfl))<|al rfl eF125 rfl rfl λ w_32 b_33 x_34 l_35 B_36=> ?_
   have:=x_34.size
   have z_32:=eT z_29 x_34
   have q_38:=B_36.lt
   refine st (new:= [.int .i64 W.field.wide, .int .i64 W.field.high, .slice a1.P W.field.places.length a1.p, .slice a1.B W.bases.length a1.b, .slice a1.S W.stocks.length a1.s, .slice a1.M W.mines.length a1.m, .slice a1.T W.troops.length a1.t, .int .i64 W.next, .int .i64 W.now]) rfl rfl B_36 rfl eF126 rfl rfl rfl λ w_39 m_40 B_36=> ?_
   have:=m_40.size
   have z_39:=Ext.mod z_32 m_40 (ge1 (by omega))
   have:=m_40.size
   refine nK<|sg<|va rfl<|nK<|sq<|sg<|vm rfl<|vL (ln Tryz.underlying125 rfl)<|vm rfl<|nK<|bk<| ?_
   have HO:=HO.later x_34
   have HO:=HO.mod m_40 (fk1 u_28 (by omega))
   have HS:Shop w_39 w_15.heap.size b_33 a1 W:=⟨B_36,HO,λ hq=>by have:=u_28 _ hq;omega,by omega⟩
   have B_12:=B_12.later (eT x_16 (eT x_30 x_34))
   have B_12:=B_12.mod m_40 (nm1 (by omega))
   refine lp (λ mI EI wI=>∃ k:Nat,∃ a2:Wd.At,∃ Ad:Option Addr,∃ cd:Nat,EI= [(4, .pointer (some ⟨b_9,0,none⟩)),(5, .slice none 0 0),(6, .int .i64 0),(8, .pointer (some ⟨b_33,0,none⟩)),(9, .slice Ad ((W.deeds (l.take k)).2.length) cd),(25, .slice A l.length c),(26, .int .i64 (l.length:Int)),(27, .int .i64 (k:Int))]∧mI=l.length - k∧Ext w wI∧Blk wI b_9 [.int .i64 0, .int .i64 0, .slice none 0 0, .slice none 0 0, .slice none 0 0, .slice none 0 0, .slice none 0 0, .int .i64 0, .int .i64 0] 28 (0,0)∧Shop wI w_15.heap.size b_33 a2 (W.deeds (l.take k)).1∧repB.SOwn 4 1 wI w.heap.size (Rep.blkOf Ad) Ad cd (W.deeds (l.take k)).2∧(k≤l.length)∧(∀ q∈Rep.blkOf Ad,q≠b_33∧q∉WOwn.foot a2)∧(∀ q∈Rep.blkOf Ad,q=b_9→False)) _ _ ⟨0,a1,none,0,rfl,rfl,z_39,B_12,HS,(Rep.SOwn.nil _),by omega,λ q hq=>by simp [Rep.blkOf] at hq,(λ q hq hb=>by (simp [Rep.blkOf] at hq))⟩ (.cons rfl (.cons rfl (.cons rfl (.cons rfl (.cons rfl (.cons rfl (.cons rfl (.cons (loI rfl (by first | omega | rfl | (simp<;>omega))) .nil)))))))) ?_
   rintro m_45 E_46 w_44 ⟨k,a2,Ad,cd,rfl,rfl,z_44,B_12,HS,OD,hk,hd,d_43⟩
   have:=z_44.size
   have q_48:=B_12.lt
   have u_49:=λ q hq=>(OD.lt q hq).2
   have uS:=λ q hq=>(HS.own.lt q hq).2
   have hbS:=HS.blk.lt
   have hle:=hl.len_le
   have hdl:(W.deeds (l.take k)).2.length=k:=by rw [deeds_len,List.length_take];omega
   refine sg<|vL (blt rfl rfl)<|nK<|sq<| ?_
   refine clt rfl (λ h_50=> ?_) (λ h_50=> ?_)
   ·refine sK<|sq<|bk<|sg<|vL (iA k Tryz.underlying125 eF120 rfl rfl ((hl.keep z_44).adr (zl k (by omega))) rfl (by omega))<|vL (ld rfl (Rep.SHas.elt hcD (by rw [← (hl.keep z_44).adr (zl k (by omega))];exact (hl.keep z_44)) (get_d (l:=l) (u:=default) (by omega)) eF119 eF120))<|al rfl eF127 rfl rfl λ w_51 b_52 x_53 l_54 B_55=> ?_
    have:=x_53.size
    have z_51:=eT z_44 x_53
    have q_57:=B_55.lt
    refine st (new:= [.int .i64 ((l.getD k default).kind), .int .i64 ((l.getD k default).who), .int .i64 ((l.getD k default).spot.x), .int .i64 ((l.getD k default).spot.y), .int .i64 ((l.getD k default).what)]) rfl rfl B_55 rfl eF120 rfl rfl rfl λ w_58 m_59 B_55=> ?_
    have:=m_59.size
    have z_58:=Ext.mod z_51 m_59 (ge1 (by omega))
    have:=m_59.size
    refine nK<|rg<|vm rfl<|vL (ld rfl (B_55.all eF119 eF120))<| ?_
    have HS:=HS.later x_53
    have HS:=HS.mod m_59 (λ q hq=>by rw [List.mem_singleton.1 hq];exact ⟨by omega,λ hf=>by have:=uS _ hf;have:=(HS.own.lt _ hf).1;omega⟩)
    have OD:=OD.later x_53
    have OD:=OD.mod m_59 (fk1 u_49 (by omega))
    refine ca eF128 rfl rfl ((deed2 (l.getD k default) _ w_15.heap.size b_33 a2 (W.deeds (l.take k)).1 HS (hG.deeds _)).mono ?_)
    rintro e w_62 ⟨a3,rfl,HS3,hf,x_63⟩
    refine ⟨_,rfl, ?_⟩
    have hu:=λ q hq=>(OD.lt q hq).2
    have:=x_63.size
    have z_62:=Ext.mod z_58 x_63 (λ q hq=>(List.mem_cons.1 hq).elim (λ h=>by rw [h];omega) (λ h=>by have:=(HS.own.lt q h).1;omega))
    have hd2:∀ q∈Rep.blkOf Ad,q≠b_33∧q∉WOwn.foot a3:=λ q hq=>⟨(hd q hq).1,λ h=>(hf q h).elim (hd q hq).2 (λ h=>by have:=hu q hq;omega)⟩
    have HS0:=HS
    have HS:=HS3
    have uS:=λ q hq=>(HS.own.lt q hq).2
    refine bs (e:= 4) (cs:= [.bool (((W.deeds (l.take k)).1.deed (l.getD k default)).isSome)]) rfl (λ _=>by kernel_rfl) rfl λ w_65 b_66 x_67 l_68 B_69=> ?_
    have:=x_67.size
    have z_65:=eT z_62 x_67
    have q_71:=B_69.lt
    have OD:=OD.mod x_63 (λ q hq h=>(List.mem_cons.1 h).elim (hd q hq).1 (hd q hq).2)
    have OD:=OD.later x_67
    refine ap GooQ_el_S_bool Rep.flat_bare OD (Blk.has1 (R:=repB) (by_:=1) (q:=((W.deeds (l.take k)).1.deed (l.getD k default)).isSome) B_69 ⟨rfl,trivial⟩ (by decide)) rfl rfl (by simp only [List.length_cons,List.length_nil];omega) (by simp only [List.length_cons,List.length_nil];omega) z_65.size rfl λ w_72 A_73 c_74 m_75 O_76 g_77 n_78=> ?_
    have:=m_75.size
    have z_72:=Ext.mod z_65 m_75 (λ q hq=>(OD.lt q hq).1)
    have u_80:=λ q hq=>(O_76.lt q hq).2
    have:=m_75.size
    have hd3:∀ q∈Rep.blkOf A_73,q≠b_33∧q∉WOwn.foot a3:=λ q hq=>(g_77 q hq).elim (hd2 q) (λ h=>⟨by omega,λ hf=>by have:=uS q hf;omega⟩)
    refine va rfl<|nl<|nB<|nT<|rg<|vL (bad rfl rfl (inI (by omega)))<|vm rfl<|nl<| ?_
    have B_12:=B_12.later x_53
    have B_12:=B_12.mod m_59 (nm1 (by omega))
    have B_12:=B_12.mod x_63 (λ h=>(List.mem_cons.1 h).elim (λ h=>by omega) (λ h=>by have:=(HS0.own.lt _ h).1;omega))
    have B_12:=B_12.later x_67
    have B_12:=B_12.mod m_75 (λ hq=>d_43 _ hq rfl)
    have HS:=HS.later x_67
    have HS:=HS.mod m_75 (λ q hq=>hd2 q hq)
    exact nI _ _ ⟨k+1,a3,A_73,c_74,rfl,rfl,z_72,B_12,(by rw [deeds_take (by omega:k<l.length)];exact HS),(by rw [deeds_take (by omega:k<l.length)];exact O_76),by omega,hd3,(λ q hq hb=>by (exact Or.elim (g_77 q hq) (λ k_82=>by (exact d_43 q k_82 hb)) (λ k_82=>by omega)))⟩ (by omega) (.cons rfl (.cons rfl (.cons rfl (.cons rfl (.cons (by rw [deeds_take (by omega:k<l.length)];rfl) (.cons rfl (.cons rfl (.cons (loI rfl (by first | omega | rfl | (simp<;>omega))) .nil))))))))
   ·refine xt<|xT<|xK<|xB<|nT<|sg<|vL (fa eF111 rfl)<|vL (ld rfl (HS.blk.all eF61 eF62))<|vm rfl<|st rfl rfl B_12 rfl eF62 rfl rfl rfl λ w_83 m_84 B_12=> ?_
    have:=m_84.size
    have z_83:=Ext.mod z_44 m_84 (ge1 (by omega))
    have:=m_84.size
    refine va rfl<|va rfl<|nK<|rt<|tR (.cell rfl (B_12.all eF61 eF62) (.tmp rfl (.tmp rfl .nil)))<| ?_
    have HS:=HS.mod m_84 (λ q hq=>by rw [List.mem_singleton.1 hq];exact ⟨by omega,λ hf=>by have:=uS _ hf;have:=(HS.own.lt _ hf).1;omega⟩)
    have OD:=OD.mod m_84 (λ q hq h=>by have hb:=List.mem_singleton.1 h;exfalso;(exact d_43 q hq hb))
    obtain rfl:k=l.length:=by omega
    refine ⟨a2,Ad,cd, ?_, ?_, ?_,λ q hq=>(hd q hq).2,z_83⟩
    ·rw [do_ok1 h_18 (by omega),do_ok2 h_18 (by omega),do_ok3 h_18 (by omega),List.take_length];rfl
    ·rw [do_ok1 h_18 (by omega)];rw [List.take_length] at HS;exact HS.own.down (by omega)
    ·rw [do_ok2 h_18 (by omega)];rw [List.take_length] at OD;exact OD
end
section
open Go.RowKit
def wt (t:Trp):Int:=t.load+Wd.priceOf t.kind
def Wd.total (W:Wd):Int:=W.mines.sum+W.stocks.sum+(W.troops.map wt).sum
def Wd.worth (W:Wd):Int:=if W.chk=0 then W.total else 0
end
section
open Go.RowKit
theorem Eql_eqs_api_Cell:EqS Tryz.prog Cel.cells 49 :=by
 intro a b w
 obtain ⟨a0,a1⟩:=a
 obtain ⟨b0,b1⟩:=b
 simp only [Cel.cells,Cel.mk.injEq]
 constructor
 ·go_simp
  repeat' split
  all_goals simp_all
 ·go_simp
  repeat' split
  all_goals simp_all
theorem Eql_eqg_api_Cell:(Tryz.prog).eqGuardType (Tryz.prog).depth 49 =false:=by kernel_rfl
theorem Eql_eqs_api_Troop:EqS Tryz.prog Trp.cells 66 :=by
 intro a b w
 obtain ⟨a0,a1,a2,⟨a3,a4⟩,a5,a6⟩:=a
 obtain ⟨b0,b1,b2,⟨b3,b4⟩,b5,b6⟩:=b
 simp only [Trp.cells,Trp.mk.injEq,Cel.mk.injEq]
 constructor
 ·go_simp
  repeat' split
  all_goals simp_all
 ·go_simp
  repeat' split
  all_goals simp_all
theorem Eql_eqg_api_Troop:(Tryz.prog).eqGuardType (Tryz.prog).depth 66 =false:=by kernel_rfl
theorem eq_all {α:Type} {l m:List α} {k:Nat} (h1:l.length=m.length) (hk:l.length≤k) (h:∀ j,j<k→l[j]? =m[j]?):l=m:=by
 apply List.ext_getElem?
 intro j
 by_cases hj:j<k
 ·exact h j hj
 ·rw [List.getElem?_eq_none (by omega),List.getElem?_eq_none (by omega)]
theorem ne_of_nb {α:Type} [DecidableEq α] {a b:α} (h:(!decide (a=b))=true):¬ a=b:=by simpa using h
theorem eq_of_nb {α:Type} [DecidableEq α] {a b:α} (h:(!decide (a=b))=false):a=b:=by simpa using h
theorem equal_C (A B:Option Addr) (c d b1 b2:Nat) (l m:List Cel) (w:World) (h1:Cel.rep.SHas b1 w A c l) (h2:Cel.rep.SHas b2 w B d m):
  Calls Tryz.prog 50 #[.slice A l.length c, .slice B m.length d] w (λ e w'=>e= .returned (.bool (decide (l=m)))∧Ext w w'):=by
 have hle:=h1.len_le
 refine calls_W (n:=26) Tryz.func50 rfl rfl rfl ?_
 refine sg<|va rfl<|nK<|sq<|sg<|vm rfl<|vL (ln Tryz.underlying25 rfl)<|vm rfl<|vL (ln Tryz.underlying25 rfl)<|vL (bne rfl rfl)<|nK<| ?_
 refine cne rfl (λ h_1=> ?_) (λ h_1=> ?_)
 ·refine sg<|va rfl<|nK<|rt<|tT<|tR (.tmp rfl .nil)<| ?_
  rw [decide_eq_false (λ e=>h_1 (by rw [e]))]
  exact ⟨rfl,(Ext.rf w)⟩
 ·refine sK<|sq<|sg<|vm rfl<|vL (ln Tryz.underlying25 rfl)<|vm rfl<|nK<|bk<| ?_
  refine lp (λ mI EI wI=>∃ k:Nat,EI= [(0, .slice A l.length c),(1, .slice B m.length d),(12, .int .i64 (l.length:Int)),(13, .int .i64 (k:Int))]∧mI=l.length - k∧Ext w wI∧(k≤l.length)∧(∀ j,j<k→l[j]? =m[j]?)) _ _ ⟨0,rfl,rfl,(Ext.rf w),by omega,λ j hj=>absurd hj (by omega)⟩ (.cons rfl (.cons rfl (.cons rfl (.cons (loI rfl (by first | omega | rfl | (simp<;>omega))) .nil)))) ?_
  rintro m_3 E_4 w_2 ⟨k,rfl,rfl,z_2,hk,hk2⟩
  have:=z_2.size
  have hle:=h1.len_le
  have hle2:=h2.len_le
  refine sg<|vL (blt rfl rfl)<|nK<|sq<| ?_
  refine clt rfl (λ h_6=> ?_) (λ h_6=> ?_)
  ·obtain ⟨x1,hx1⟩:=get_of (l:=l) (i:=k) (by omega)
   obtain ⟨y1,hy1⟩:=get_of (l:=m) (i:=k) (by omega)
   refine sK<|sq<|bk<|sg<|vm rfl<|va rfl<|nK<|sq<| ?_
   refine rd [(3,0),(7,0)] [0,1,2,3,4,5,6,7,8] (by kernel_rfl) (by kernel_rfl) ?_
   refine fw1 rfl (λ _=>mv rfl)<|fw1 rfl (λ _=>mv rfl)<|fw1 rfl (λ _=>iA k Tryz.underlying25 eF4 rfl rfl ((h1.keep z_2).adr (zl k (by omega))) rfl (by omega))<|fq1 rfl (λ _ x=>ld rfl (Rep.SHas.elt hcC (by rw [← (h1.keep (eT z_2 x)).adr (zl k (by omega))];exact (h1.keep (eT z_2 x))) hx1 eF3 eF4))<|fw1 rfl (λ _=>mv rfl)<|fw1 rfl (λ _=>mv rfl)<|fw1 rfl (λ _=>iA k Tryz.underlying25 eF4 rfl rfl ((h2.keep z_2).adr (zl k (by omega))) rfl (by omega))<|fq1 rfl (λ _ x=>ld rfl (Rep.SHas.elt hcC (by rw [← (h2.keep (eT z_2 x)).adr (zl k (by omega))];exact (h2.keep (eT z_2 x))) hy1 eF3 eF4))<|fw1 rfl (λ _=>bnS Eql_eqs_api_Cell Eql_eqg_api_Cell (p:=x1) (q:=y1) rfl rfl)<|fn λ w_7 x_8=> ?_
   have:=x_8.size
   have z_7:=eT z_2 x_8
   refine nT<| ?_
   refine cb rfl (λ h_10=> ?_) (λ h_10=> ?_)
   ·refine sg<|va rfl<|nK<|rt<|tB<|tT<|tK<|tB<|tT<|tR (.tmp rfl .nil)<| ?_
    rw [decide_eq_false (λ e=>by rw [e,hy1] at hx1;injection hx1 with hx1;exact absurd hx1.symm (by first | exact ne_of_nb h_10 | exact h_10))]
    exact ⟨rfl,z_7⟩
   ·refine sk<|nB<|nT<|rg<|vL (bad rfl rfl (inI (by omega)))<|vm rfl<|nl<| ?_
    exact nI _ _ ⟨k+1,rfl,rfl,z_7,by omega,lt_succ_all hk2 (by rw [hx1,hy1,(by first | exact eq_of_nb h_10 | exact h_10:x1=y1)])⟩ (by omega) (.cons rfl (.cons rfl (.cons rfl (.cons (loI rfl (by first | omega | rfl | (simp<;>omega))) .nil))))
  ·refine xt<|xT<|xK<|xB<|nT<|sg<|va rfl<|nK<|rt<|tR (.tmp rfl .nil)<| ?_
   rw [decide_eq_true (eq_all (by omega) (by omega) hk2)]
   exact ⟨rfl,z_2⟩
theorem equal_T (A B:Option Addr) (c d b1 b2:Nat) (l m:List Trp) (w:World) (h1:Trp.rep.SHas b1 w A c l) (h2:Trp.rep.SHas b2 w B d m):
  Calls Tryz.prog 30 #[.slice A l.length c, .slice B m.length d] w (λ e w'=>e= .returned (.bool (decide (l=m)))∧Ext w w'):=by
 have hle:=h1.len_le
 refine calls_W (n:=26) Tryz.func30 rfl rfl rfl ?_
 refine sg<|va rfl<|nK<|sq<|sg<|vm rfl<|vL (ln Tryz.underlying26 rfl)<|vm rfl<|vL (ln Tryz.underlying26 rfl)<|vL (bne rfl rfl)<|nK<| ?_
 refine cne rfl (λ h_1=> ?_) (λ h_1=> ?_)
 ·refine sg<|va rfl<|nK<|rt<|tT<|tR (.tmp rfl .nil)<| ?_
  rw [decide_eq_false (λ e=>h_1 (by rw [e]))]
  exact ⟨rfl,(Ext.rf w)⟩
 ·refine sK<|sq<|sg<|vm rfl<|vL (ln Tryz.underlying26 rfl)<|vm rfl<|nK<|bk<| ?_
  refine lp (λ mI EI wI=>∃ k:Nat,EI= [(0, .slice A l.length c),(1, .slice B m.length d),(12, .int .i64 (l.length:Int)),(13, .int .i64 (k:Int))]∧mI=l.length - k∧Ext w wI∧(k≤l.length)∧(∀ j,j<k→l[j]? =m[j]?)) _ _ ⟨0,rfl,rfl,(Ext.rf w),by omega,λ j hj=>absurd hj (by omega)⟩ (.cons rfl (.cons rfl (.cons rfl (.cons (loI rfl (by first | omega | rfl | (simp<;>omega))) .nil)))) ?_
  rintro m_3 E_4 w_2 ⟨k,rfl,rfl,z_2,hk,hk2⟩
  have:=z_2.size
  have hle:=h1.len_le
  have hle2:=h2.len_le
  refine sg<|vL (blt rfl rfl)<|nK<|sq<| ?_
  refine clt rfl (λ h_6=> ?_) (λ h_6=> ?_)
  ·obtain ⟨x1,hx1⟩:=get_of (l:=l) (i:=k) (by omega)
   obtain ⟨y1,hy1⟩:=get_of (l:=m) (i:=k) (by omega)
   refine sK<|sq<|bk<|sg<|vm rfl<|va rfl<|nK<|sq<| ?_
   refine rd [(3,0),(7,0)] [0,1,2,3,4,5,6,7,8] (by kernel_rfl) (by kernel_rfl) ?_
   refine fw1 rfl (λ _=>mv rfl)<|fw1 rfl (λ _=>mv rfl)<|fw1 rfl (λ _=>iA k Tryz.underlying26 eF66 rfl rfl ((h1.keep z_2).adr (zl k (by omega))) rfl (by omega))<|fq1 rfl (λ _ x=>ld rfl (Rep.SHas.elt hcT (by rw [← (h1.keep (eT z_2 x)).adr (zl k (by omega))];exact (h1.keep (eT z_2 x))) hx1 eF67 eF66))<|fw1 rfl (λ _=>mv rfl)<|fw1 rfl (λ _=>mv rfl)<|fw1 rfl (λ _=>iA k Tryz.underlying26 eF66 rfl rfl ((h2.keep z_2).adr (zl k (by omega))) rfl (by omega))<|fq1 rfl (λ _ x=>ld rfl (Rep.SHas.elt hcT (by rw [← (h2.keep (eT z_2 x)).adr (zl k (by omega))];exact (h2.keep (eT z_2 x))) hy1 eF67 eF66))<|fw1 rfl (λ _=>bnS Eql_eqs_api_Troop Eql_eqg_api_Troop (p:=x1) (q:=y1) rfl rfl)<|fn λ w_7 x_8=> ?_
   have:=x_8.size
   have z_7:=eT z_2 x_8
   refine nT<| ?_
   refine cb rfl (λ h_10=> ?_) (λ h_10=> ?_)
   ·refine sg<|va rfl<|nK<|rt<|tB<|tT<|tK<|tB<|tT<|tR (.tmp rfl .nil)<| ?_
    rw [decide_eq_false (λ e=>by rw [e,hy1] at hx1;injection hx1 with hx1;exact absurd hx1.symm (by first | exact ne_of_nb h_10 | exact h_10))]
    exact ⟨rfl,z_7⟩
   ·refine sk<|nB<|nT<|rg<|vL (bad rfl rfl (inI (by omega)))<|vm rfl<|nl<| ?_
    exact nI _ _ ⟨k+1,rfl,rfl,z_7,by omega,lt_succ_all hk2 (by rw [hx1,hy1,(by first | exact eq_of_nb h_10 | exact h_10:x1=y1)])⟩ (by omega) (.cons rfl (.cons rfl (.cons rfl (.cons (loI rfl (by first | omega | rfl | (simp<;>omega))) .nil))))
  ·refine xt<|xT<|xK<|xB<|nT<|sg<|va rfl<|nK<|rt<|tR (.tmp rfl .nil)<| ?_
   rw [decide_eq_true (eq_all (by omega) (by omega) hk2)]
   exact ⟨rfl,z_2⟩
theorem equal_Z (A B:Option Addr) (c d b1 b2:Nat) (l m:List Int) (w:World) (h1:repI.SHas b1 w A c l) (h2:repI.SHas b2 w B d m):
  Calls Tryz.prog 31 #[.slice A l.length c, .slice B m.length d] w (λ e w'=>e= .returned (.bool (decide (l=m)))∧Ext w w'):=by
 have hle:=h1.len_le
 refine calls_W (n:=26) Tryz.func31 rfl rfl rfl ?_
 refine sg<|va rfl<|nK<|sq<|sg<|vm rfl<|vL (ln Tryz.underlying22 rfl)<|vm rfl<|vL (ln Tryz.underlying22 rfl)<|vL (bne rfl rfl)<|nK<| ?_
 refine cne rfl (λ h_1=> ?_) (λ h_1=> ?_)
 ·refine sg<|va rfl<|nK<|rt<|tT<|tR (.tmp rfl .nil)<| ?_
  rw [decide_eq_false (λ e=>h_1 (by rw [e]))]
  exact ⟨rfl,(Ext.rf w)⟩
 ·refine sK<|sq<|sg<|vm rfl<|vL (ln Tryz.underlying22 rfl)<|vm rfl<|nK<|bk<| ?_
  refine lp (λ mI EI wI=>∃ k:Nat,EI= [(0, .slice A l.length c),(1, .slice B m.length d),(12, .int .i64 (l.length:Int)),(13, .int .i64 (k:Int))]∧mI=l.length - k∧Ext w wI∧(k≤l.length)∧(∀ j,j<k→l[j]? =m[j]?)) _ _ ⟨0,rfl,rfl,(Ext.rf w),by omega,λ j hj=>absurd hj (by omega)⟩ (.cons rfl (.cons rfl (.cons rfl (.cons (loI rfl (by first | omega | rfl | (simp<;>omega))) .nil)))) ?_
  rintro m_3 E_4 w_2 ⟨k,rfl,rfl,z_2,hk,hk2⟩
  have:=z_2.size
  have hle:=h1.len_le
  have hle2:=h2.len_le
  refine sg<|vL (blt rfl rfl)<|nK<|sq<| ?_
  refine clt rfl (λ h_6=> ?_) (λ h_6=> ?_)
  ·obtain ⟨x1,hx1⟩:=get_of (l:=l) (i:=k) (by omega)
   obtain ⟨y1,hy1⟩:=get_of (l:=m) (i:=k) (by omega)
   refine sK<|sq<|bk<|sg<|vm rfl<|va rfl<|nK<|sq<| ?_
   refine rd [(3,0),(7,0)] [0,1,2,3,4,5,6,7,8] (by kernel_rfl) (by kernel_rfl) ?_
   refine fw1 rfl (λ _=>mv rfl)<|fw1 rfl (λ _=>mv rfl)<|fw1 rfl (λ _=>iA k Tryz.underlying22 eF7 rfl rfl ((h1.keep z_2).adr (zl k (by omega))) rfl (by omega))<|fq1 rfl (λ _ x=>ld rfl (Rep.SHas.one' hcI (by rw [← (h1.keep (eT z_2 x)).adr (zl k (by omega))];exact (h1.keep (eT z_2 x))) hx1 rfl eF1))<|fw1 rfl (λ _=>mv rfl)<|fw1 rfl (λ _=>mv rfl)<|fw1 rfl (λ _=>iA k Tryz.underlying22 eF7 rfl rfl ((h2.keep z_2).adr (zl k (by omega))) rfl (by omega))<|fq1 rfl (λ _ x=>ld rfl (Rep.SHas.one' hcI (by rw [← (h2.keep (eT z_2 x)).adr (zl k (by omega))];exact (h2.keep (eT z_2 x))) hy1 rfl eF1))<|fw1 rfl (λ _=>bne rfl rfl)<|fn λ w_7 x_8=> ?_
   have:=x_8.size
   have z_7:=eT z_2 x_8
   refine nT<| ?_
   refine cne rfl (λ h_10=> ?_) (λ h_10=> ?_)
   ·refine sg<|va rfl<|nK<|rt<|tB<|tT<|tK<|tB<|tT<|tR (.tmp rfl .nil)<| ?_
    rw [decide_eq_false (λ e=>by rw [e,hy1] at hx1;injection hx1 with hx1;exact absurd hx1.symm (by first | exact ne_of_nb h_10 | exact h_10))]
    exact ⟨rfl,z_7⟩
   ·refine sk<|nB<|nT<|rg<|vL (bad rfl rfl (inI (by omega)))<|vm rfl<|nl<| ?_
    exact nI _ _ ⟨k+1,rfl,rfl,z_7,by omega,lt_succ_all hk2 (by rw [hx1,hy1,(by first | exact eq_of_nb h_10 | exact h_10:x1=y1)])⟩ (by omega) (.cons rfl (.cons rfl (.cons rfl (.cons (loI rfl (by first | omega | rfl | (simp<;>omega))) .nil))))
  ·refine xt<|xT<|xK<|xB<|nT<|sg<|va rfl<|nK<|rt<|tR (.tmp rfl .nil)<| ?_
   rw [decide_eq_true (eq_all (by omega) (by omega) hk2)]
   exact ⟨rfl,z_2⟩
end
section
open Go.RowKit
theorem same_world {W V:Wd}:((((((decide (W.field=V.field) && decide (W.bases=V.bases)) && decide (W.stocks=V.stocks)) && decide (W.mines=V.mines)) && decide (W.troops=V.troops)) && (W.next == V.next)) && (W.now == V.now))=decide (W=V):=by
 obtain ⟨f,b,s,m,t,n,o⟩:=W
 obtain ⟨f',b',s',m',t',n',o'⟩:=V
 rw [Bool.eq_iff_iff]
 simp [and_assoc]
theorem same_field {f g:Fld}:(((f.wide == g.wide) && (f.high == g.high)) && decide (f.places=g.places))=decide (f=g):=by
 obtain ⟨a,b,c⟩:=f
 obtain ⟨a',b',c'⟩:=g
 rw [Bool.eq_iff_iff]
 simp [and_assoc]
def smallW:Wd:=⟨⟨3,1, [0,0,3]⟩, [⟨0,0⟩], [20], [0,0,9], [⟨1,0,1,⟨1,0⟩,10,0⟩],2,0⟩
def smallL:List Ded:= [(⟨1,1,⟨2,0⟩,0⟩:Ded),(⟨3,0,⟨0,0⟩,2⟩:Ded)]
def smallV:Wd:=smallW.doW smallL
theorem sameField_any (f g:Fld) (A B:Option Addr) (c d:Nat) (w:World) (h1:repI.SHas 8 w A c f.places) (h2:repI.SHas 8 w B d g.places):
  Calls Tryz.prog 49 #[.agg #[.int .i64 f.wide, .int .i64 f.high, .slice A f.places.length c], .agg #[.int .i64 g.wide, .int .i64 g.high, .slice B g.places.length d]] w (λ e w'=>e= .returned (.bool (decide (f=g)))∧Ext w w'):=by
 refine calls_W (n:=24) Tryz.func49 rfl rfl rfl ?_
 refine sg<|bx rfl rfl rfl rfl λ w_1 b_2 x_3 l_4 B_5=> ?_
 have:=x_3.size
 have z_1:=eT (Ext.rf w) x_3
 have q_7:=B_5.lt
 refine bx rfl rfl rfl rfl λ w_8 b_9 x_10 l_11 B_12=> ?_
 have:=x_10.size
 have z_8:=eT z_1 x_10
 have q_14:=B_12.lt
 refine va rfl<|nK<|sg<|vL (fa eF22 rfl)<| ?_
 have B_5:=B_5.later x_10
 refine vL (ld rfl (B_5.one eF1 rfl))<|vL (fa eF22 rfl)<|vL (ld rfl (B_12.one eF1 rfl))<|vL (beq rfl rfl)<|vm rfl<|vQ rfl rfl rfl rfl (λ hc=>fa eF129 rfl) rfl<|vQ rfl rfl rfl rfl (λ hc=>ld (gt hc rfl) (B_5.one eF1 rfl)) rfl<|vQ rfl rfl rfl rfl (λ hc=>fa eF129 rfl) rfl<|vQ rfl rfl rfl rfl (λ hc=>ld (gt hc rfl) (B_12.one eF1 rfl)) rfl<|vQ rfl rfl rfl rfl (λ hc=>beq (gt hc rfl) (gt hc rfl)) rfl<|vL (pA rfl rfl rfl rfl)<|vm rfl<|vQ rfl rfl rfl rfl (λ hc=>fa eF45 rfl) rfl<|vQ rfl rfl rfl rfl (λ hc=>ld (gt hc rfl) (B_5.one eF36 rfl)) rfl<|vQ rfl rfl rfl rfl (λ hc=>fa eF45 rfl) rfl<|vQ rfl rfl rfl rfl (λ hc=>ld (gt hc rfl) (B_12.one eF36 rfl)) rfl<|vC rfl rfl rfl rfl eF130 (λ hc=>ec (gt hc rfl) (ec (gt hc rfl) rfl)) (λ hc=>equal_Z _ _ _ _ _ _ f.places g.places _ (h1.keep z_8) (h2.keep z_8)) rfl λ w_15 x_16=> ?_
 have:=x_16.size
 have z_15:=eT z_8 x_16
 refine vL (pA rfl rfl rfl rfl)<|va rfl<|nK<|rt<|tR (.tmp rfl .nil)<| ?_
 exact ⟨by rw [← same_field];rfl,z_15⟩
theorem sameWorld_any  (w:World) (a:Wd.At) (W:Wd) (b:Wd.At) (V:Wd) (hW:Wd.Has w a W) (hV:Wd.Has w b V):
  Calls Tryz.prog 15 #[.agg ((Wd.cells a W).toArray), .agg ((Wd.cells b V).toArray)] w (λ e w'=>e= .returned (.bool (decide (W=V)))∧Ext w w'):=by
 refine calls_W (n:=52) Tryz.func15 rfl rfl rfl ?_
 refine sg<|bx rfl rfl rfl rfl λ w_1 b_2 x_3 l_4 B_5=> ?_
 have:=x_3.size
 have z_1:=eT (Ext.rf w) x_3
 have q_7:=B_5.lt
 refine bx rfl rfl rfl rfl λ w_8 b_9 x_10 l_11 B_12=> ?_
 have:=x_10.size
 have z_8:=eT z_1 x_10
 have q_14:=B_12.lt
 refine va rfl<|nK<|sg<|vL (fa eF59 rfl)<| ?_
 have B_5:=B_5.later x_10
 refine vL (ld rfl (B_5.par [.int .i64 W.field.wide, .int .i64 W.field.high, .slice a.P W.field.places.length a.p] eF23 eF24 rfl))<|vL (fa eF59 rfl)<|vL (ld rfl (B_12.par [.int .i64 V.field.wide, .int .i64 V.field.high, .slice b.P V.field.places.length b.p] eF23 eF24 rfl))<|ca eF131 rfl rfl ((sameField_any W.field V.field _ _ _ _ _ (hW.P.keep z_8) (hV.P.keep z_8)).mono ?_)
 rintro e w_15 ⟨rfl,x_16⟩
 refine ⟨_,rfl, ?_⟩
 have:=x_16.size
 have z_15:=eT z_8 x_16
 refine vm rfl<|vQ rfl rfl rfl rfl (λ hc=>fa eF83 rfl) rfl<| ?_
 have B_5:=B_5.later x_16
 refine vQ rfl rfl rfl rfl (λ hc=>ld (gt hc rfl) (B_5.one eF84 rfl)) rfl<|vQ rfl rfl rfl rfl (λ hc=>fa eF83 rfl) rfl<| ?_
 have B_12:=B_12.later x_16
 refine vQ rfl rfl rfl rfl (λ hc=>ld (gt hc rfl) (B_12.one eF84 rfl)) rfl<|vC rfl rfl rfl rfl eF132 (λ hc=>ec (gt hc rfl) (ec (gt hc rfl) rfl)) (λ hc=>equal_C _ _ _ _ _ _ W.bases V.bases _ (hW.B.keep z_15) (hV.B.keep z_15)) rfl λ w_18 x_19=> ?_
 have:=x_19.size
 have z_18:=eT z_15 x_19
 refine vL (pA rfl rfl rfl rfl)<|vm rfl<|vQ rfl rfl rfl rfl (λ hc=>fa eF85 rfl) rfl<| ?_
 have B_5:=B_5.later x_19
 refine vQ rfl rfl rfl rfl (λ hc=>ld (gt hc rfl) (B_5.one eF36 rfl)) rfl<|vQ rfl rfl rfl rfl (λ hc=>fa eF85 rfl) rfl<| ?_
 have B_12:=B_12.later x_19
 refine vQ rfl rfl rfl rfl (λ hc=>ld (gt hc rfl) (B_12.one eF36 rfl)) rfl<|vC rfl rfl rfl rfl eF130 (λ hc=>ec (gt hc rfl) (ec (gt hc rfl) rfl)) (λ hc=>equal_Z _ _ _ _ _ _ W.stocks V.stocks _ (hW.S.keep z_18) (hV.S.keep z_18)) rfl λ w_21 x_22=> ?_
 have:=x_22.size
 have z_21:=eT z_18 x_22
 refine vL (pA rfl rfl rfl rfl)<|vm rfl<|vQ rfl rfl rfl rfl (λ hc=>fa eF88 rfl) rfl<| ?_
 have B_5:=B_5.later x_22
 refine vQ rfl rfl rfl rfl (λ hc=>ld (gt hc rfl) (B_5.one eF36 rfl)) rfl<|vQ rfl rfl rfl rfl (λ hc=>fa eF88 rfl) rfl<| ?_
 have B_12:=B_12.later x_22
 refine vQ rfl rfl rfl rfl (λ hc=>ld (gt hc rfl) (B_12.one eF36 rfl)) rfl<|vC rfl rfl rfl rfl eF130 (λ hc=>ec (gt hc rfl) (ec (gt hc rfl) rfl)) (λ hc=>equal_Z _ _ _ _ _ _ W.mines V.mines _ (hW.M.keep z_21) (hV.M.keep z_21)) rfl λ w_24 x_25=> ?_
 have:=x_25.size
 have z_24:=eT z_21 x_25
 refine vL (pA rfl rfl rfl rfl)<|vm rfl<|vQ rfl rfl rfl rfl (λ hc=>fa eF64 rfl) rfl<| ?_
 have B_5:=B_5.later x_25
 refine vQ rfl rfl rfl rfl (λ hc=>ld (gt hc rfl) (B_5.one eF65 rfl)) rfl<|vQ rfl rfl rfl rfl (λ hc=>fa eF64 rfl) rfl<| ?_
 have B_12:=B_12.later x_25
 refine vQ rfl rfl rfl rfl (λ hc=>ld (gt hc rfl) (B_12.one eF65 rfl)) rfl<|vC rfl rfl rfl rfl eF133 (λ hc=>ec (gt hc rfl) (ec (gt hc rfl) rfl)) (λ hc=>equal_T _ _ _ _ _ _ W.troops V.troops _ (hW.T.keep z_24) (hV.T.keep z_24)) rfl λ w_27 x_28=> ?_
 have:=x_28.size
 have z_27:=eT z_24 x_28
 refine vL (pA rfl rfl rfl rfl)<|vm rfl<|vQ rfl rfl rfl rfl (λ hc=>fa eF115 rfl) rfl<| ?_
 have B_5:=B_5.later x_28
 refine vQ rfl rfl rfl rfl (λ hc=>ld (gt hc rfl) (B_5.one eF1 rfl)) rfl<|vQ rfl rfl rfl rfl (λ hc=>fa eF115 rfl) rfl<| ?_
 have B_12:=B_12.later x_28
 refine vQ rfl rfl rfl rfl (λ hc=>ld (gt hc rfl) (B_12.one eF1 rfl)) rfl<|vQ rfl rfl rfl rfl (λ hc=>beq (gt hc rfl) (gt hc rfl)) rfl<|vL (pA rfl rfl rfl rfl)<|vm rfl<|vQ rfl rfl rfl rfl (λ hc=>fa eF134 rfl) rfl<|vQ rfl rfl rfl rfl (λ hc=>ld (gt hc rfl) (B_5.one eF1 rfl)) rfl<|vQ rfl rfl rfl rfl (λ hc=>fa eF134 rfl) rfl<|vQ rfl rfl rfl rfl (λ hc=>ld (gt hc rfl) (B_12.one eF1 rfl)) rfl<|vQ rfl rfl rfl rfl (λ hc=>beq (gt hc rfl) (gt hc rfl)) rfl<|vL (pA rfl rfl rfl rfl)<|va rfl<|nK<|rt<|tR (.tmp rfl .nil)<| ?_
 exact ⟨by rw [← same_world];rfl,z_27⟩
theorem small_any  (w:World):
  Calls Tryz.prog 48 #[] w (λ e w'=>∃ a,e= .returned (.agg (Wd.cells a smallW).toArray)∧WOwn w' w.heap.size a smallW∧Ext w w'):=by
 refine calls_W (n:=11) Tryz.func48 rfl rfl rfl ?_
 refine sg<|al rfl eF80 rfl rfl λ w_1 b_2 x_3 l_4 B_5=> ?_
 have:=x_3.size
 have z_1:=eT (Ext.rf w) x_3
 have q_7:=B_5.lt
 refine nK<|sg<|bs (e:= 3) (cs:= [.int .i64 0, .int .i64 0, .int .i64 3]) rfl (λ _=>by kernel_rfl) rfl λ w_8 b_9 x_10 l_11 B_12=> ?_
 have:=x_10.size
 have z_8:=eT z_1 x_10
 have q_14:=B_12.lt
 refine vL (v:= .agg #[.int .i64 3, .int .i64 1, .slice (some ⟨b_9,0,none⟩) 3 3]) (bd rfl (by kernel_rfl))<|vL (v:= .agg #[.int .i64 0, .int .i64 0]) (bd rfl (by kernel_rfl))<|bs (e:= 49) (cs:= [.int .i64 0, .int .i64 0]) rfl (λ _=>by kernel_rfl) rfl λ w_15 b_16 x_17 l_18 B_19=> ?_
 have:=x_17.size
 have z_15:=eT z_8 x_17
 have q_21:=B_19.lt
 refine bs (e:= 3) (cs:= [.int .i64 20]) rfl (λ _=>by kernel_rfl) rfl λ w_22 b_23 x_24 l_25 B_26=> ?_
 have:=x_24.size
 have z_22:=eT z_15 x_24
 have q_28:=B_26.lt
 refine bs (e:= 3) (cs:= [.int .i64 0, .int .i64 0, .int .i64 9]) rfl (λ _=>by kernel_rfl) rfl λ w_29 b_30 x_31 l_32 B_33=> ?_
 have:=x_31.size
 have z_29:=eT z_22 x_31
 have q_35:=B_33.lt
 refine vL (v:= .agg #[.int .i64 1, .int .i64 0]) (bd rfl (by kernel_rfl))<|vL (v:= .agg #[.int .i64 1, .int .i64 0, .int .i64 1, .int .i64 1, .int .i64 0, .int .i64 10, .int .i64 0]) (bd rfl (by kernel_rfl))<|bs (e:= 66) (cs:= [.int .i64 1, .int .i64 0, .int .i64 1, .int .i64 1, .int .i64 0, .int .i64 10, .int .i64 0]) rfl (λ _=>by kernel_rfl) rfl λ w_36 b_37 x_38 l_39 B_40=> ?_
 have:=x_38.size
 have z_36:=eT z_29 x_38
 have q_42:=B_40.lt
 refine vL (v:= .agg #[.int .i64 3, .int .i64 1, .slice (some ⟨b_9,0,none⟩) 3 3, .slice (some ⟨b_16,0,none⟩) 1 1, .slice (some ⟨b_23,0,none⟩) 1 1, .slice (some ⟨b_30,0,none⟩) 3 3, .slice (some ⟨b_37,0,none⟩) 1 1, .int .i64 2, .int .i64 0]) (bd rfl (by kernel_rfl))<| ?_
 have B_5:=B_5.later (eT x_10 (eT x_17 (eT x_24 (eT x_31 x_38))))
 refine st (new:= [.int .i64 3, .int .i64 1, .slice (some ⟨b_9,0,none⟩) 3 3, .slice (some ⟨b_16,0,none⟩) 1 1, .slice (some ⟨b_23,0,none⟩) 1 1, .slice (some ⟨b_30,0,none⟩) 3 3, .slice (some ⟨b_37,0,none⟩) 1 1, .int .i64 2, .int .i64 0]) rfl rfl B_5 rfl eF62 rfl rfl rfl λ w_43 m_44 B_5=> ?_
 have:=m_44.size
 have z_43:=Ext.mod z_36 m_44 (ge1 (by omega))
 have:=m_44.size
 refine nK<|rt<|tR (.cell rfl (B_5.all eF61 eF62) .nil)<| ?_
 have B_12:=B_12.later (eT x_17 (eT x_24 (eT x_31 x_38)))
 have B_12:=B_12.mod m_44 (nm1 (by omega))
 have B_19:=B_19.later (eT x_24 (eT x_31 x_38))
 have B_19:=B_19.mod m_44 (nm1 (by omega))
 have B_26:=B_26.later (eT x_31 x_38)
 have B_26:=B_26.mod m_44 (nm1 (by omega))
 have B_33:=B_33.later x_38
 have B_33:=B_33.mod m_44 (nm1 (by omega))
 have B_40:=B_40.mod m_44 (nm1 (by omega))
 exact ⟨⟨some ⟨b_9,0,none⟩,some ⟨b_16,0,none⟩,some ⟨b_23,0,none⟩,some ⟨b_30,0,none⟩,some ⟨b_37,0,none⟩,3,1,1,3,1⟩,rfl,⟨Blk.ownN (R:=repI) (by_:=8) (B:=w.heap.size) (k:= [0,0,3]) B_12 [[.int .i64 0], [.int .i64 0], [.int .i64 3]] rfl ⟨⟨rfl,okI_iff.2 (by decide)⟩,⟨rfl,okI_iff.2 (by decide)⟩,⟨rfl,okI_iff.2 (by decide)⟩,trivial⟩ (by simp) (by simp) (by decide) (by omega),Blk.ownN (R:=Cel.rep) (by_:=16) (B:=w.heap.size) (k:= [⟨0,0⟩]) B_19 [[.int .i64 0, .int .i64 0]] rfl ⟨⟨rfl,okI_iff.2 (by decide),okI_iff.2 (by decide)⟩,trivial⟩ (by simp) (by simp) (by decide) (by omega),Blk.ownN (R:=repI) (by_:=8) (B:=w.heap.size) (k:= [20]) B_26 [[.int .i64 20]] rfl ⟨⟨rfl,okI_iff.2 (by decide)⟩,trivial⟩ (by simp) (by simp) (by decide) (by omega),Blk.ownN (R:=repI) (by_:=8) (B:=w.heap.size) (k:= [0,0,9]) B_33 [[.int .i64 0], [.int .i64 0], [.int .i64 9]] rfl ⟨⟨rfl,okI_iff.2 (by decide)⟩,⟨rfl,okI_iff.2 (by decide)⟩,⟨rfl,okI_iff.2 (by decide)⟩,trivial⟩ (by simp) (by simp) (by decide) (by omega),Blk.ownN (R:=Trp.rep) (by_:=56) (B:=w.heap.size) (k:= [⟨1,0,1,⟨1,0⟩,10,0⟩]) B_40 [[.int .i64 1, .int .i64 0, .int .i64 1, .int .i64 1, .int .i64 0, .int .i64 10, .int .i64 0]] rfl ⟨⟨rfl,okI_iff.2 (by decide),okI_iff.2 (by decide),okI_iff.2 (by decide),okI_iff.2 (by decide),okI_iff.2 (by decide),okI_iff.2 (by decide),okI_iff.2 (by decide)⟩,trivial⟩ (by simp) (by simp) (by decide) (by omega),by simp [Rep.blkOf];omega,okI_iff.2 (by decide),okI_iff.2 (by decide),okI_iff.2 (by decide),okI_iff.2 (by decide)⟩,z_43⟩
end
section
open Go.RowKit
theorem nodup_le:∀ (n:Nat) (l:List Nat),l.Nodup→(∀ x∈l,x<n)→l.length≤n:=by
 intro n
 induction n with
 | zero =>
  intro l _ h
  cases l with
  | nil=>exact Nat.le_refl _
  | cons x r=>exact absurd (h x List.mem_cons_self) (by omega)
 | succ n ih =>
  intro l hn h
  by_cases hm:n∈l
  ·have h1:=ih (l.erase n) (hn.erase _) (λ x hx=>by
    have:=h x (List.mem_of_mem_erase hx)
    have hne:x≠n:=λ e=>by subst e;exact (List.Nodup.not_mem_erase hn) hx
    omega)
   rw [List.length_erase_of_mem hm] at h1
   omega
  ·have:=ih l hn (λ x hx=>by
    have:=h x hx
    have hne:x≠n:=λ e=>hm (by rw [← e];exact hx)
    omega)
   omega
section
variable {f:Fld} {a b c x y:Cel} {d D:Int} {far:List Int} {fr:Cel→Int}
theorem cells_le (hf:f.chk=0) {l:List Cel} (hn:l.Nodup) (hi:∀ x∈l,f.isIn x=true):l.length≤f.places.length:=by
 have h1:(l.map f.at_).Nodup:=by
  have:∀ l:List Cel,l.Nodup→(∀ x∈l,f.isIn x=true)→(l.map f.at_).Nodup:=by
   intro l
   induction l with
   | nil=>intro _ _;exact List.nodup_nil
   | cons x r ih =>
    intro hn hi
    rw [List.nodup_cons] at hn
    rw [List.map_cons,List.nodup_cons]
    refine ⟨λ hm=> ?_,ih hn.2 λ y hy=>hi y (List.mem_cons_of_mem _ hy)⟩
    obtain ⟨y,hy,e⟩:=List.mem_map.1 hm
    have:=Fld.at_inj hf (hi y (List.mem_cons_of_mem _ hy)) (hi x List.mem_cons_self) e
    subst this;exact hn.1 hy
  exact this l hn hi
 have:=nodup_le f.places.length _ h1 (λ i hm=>by
  obtain ⟨y,hy,rfl⟩:=List.mem_map.1 hm
  exact (Fld.at_lt hf (hi y hy)).1)
 rwa [List.length_map] at this
abbrev RchF (f:Fld) (a:Cel):Cel→Int→Prop:=Gra.Rch f.adj f.kost (λ s=>s=a)
abbrev DstF (f:Fld) (a:Cel):Cel→Int→Prop:=Gra.IsD f.adj f.kost (λ s=>s=a)
theorem RchF.nn (r:RchF f a x d):0≤d:=Gra.Rch.nn (Fld.okZ f) r
theorem RchF.ground (ha:f.ground a=true) (r:RchF f a x d):f.ground x=true:=by
 induction r with
 | start hs=>rw [hs];exact ha
 | step _ hy _=>exact (Fld.mem_adj.1 hy).2
theorem RchF.tr (r:RchF f a x d) {e:Int} (q:RchF f x y e):RchF f a y (d+e):=by
 induction q with
 | start hs=>rw [hs,Int.add_zero];exact r
 | step _ hy ih=>rw [← Int.add_assoc];exact .step ih hy
theorem DstF.pred (h:DstF f a x d):(x=a∧d=0)∨∃ p e,DstF f a p e∧x∈f.adj p∧d=e+f.kost x:=by
 obtain ⟨r,hm⟩:=h
 cases r with
 | start hs=>exact .inl ⟨hs,rfl⟩
 | @step p _ e hp hy =>
  obtain ⟨e',he⟩:=Gra.Rch.isD (Fld.okZ f) hp
  have h1:=he.2 _ hp
  have h2:=hm _ (.step he.1 hy)
  have:e=e':=by omega
  subst this
  exact .inr ⟨p,e,he,hy,rfl⟩
theorem DstF.chain (hf:f.chk=0) (ha:f.ground a=true):∀ (n:Nat) (x:Cel) (d:Int),DstF f a x d→d.toNat=n→∃ l:List Cel,l.Nodup∧(∀ y∈l,f.isIn y=true∧∃ e,DstF f a y e∧e≤d)∧d+3≤3 * (l.length:Int):=by
 intro n
 induction n using Nat.strongRecOn with
 | ind n ih =>
  intro x d h hn
  have hx:=Fld.ground_in (RchF.ground ha h.1)
  rcases h.pred with ⟨h1,h2⟩ | ⟨p,e,h1,h2,h3⟩
  ·refine ⟨[x],by simp,λ y hy=> ?_,by rw [h2];simp⟩
   rw [List.mem_singleton.1 hy];exact ⟨hx,d,h,Int.le_refl _⟩
  ·have hk:=f.kost_bd (c:=x)
   have he:=RchF.nn h1.1
   obtain ⟨l,l1,l2,l3⟩:=ih e.toNat (by omega) p e h1 rfl
   refine ⟨x::l,List.nodup_cons.2 ⟨λ hm=> ?_,l1⟩,λ y hy=> ?_,by rw [List.length_cons];omega⟩
   ·obtain ⟨_,e',h4,h5⟩:=l2 x hm
    have:=h4.uniq h;omega
   ·rcases List.mem_cons.1 hy with rfl | hy
    ·exact ⟨hx,d,h,Int.le_refl _⟩
    ·obtain ⟨h4,e',h5,h6⟩:=l2 y hy
     exact ⟨h4,e',h5,by omega⟩
theorem DstF.bd (hf:f.chk=0) (ha:f.ground a=true) (h:DstF f a x d):d+3≤3 * (f.places.length:Int):=by
 obtain ⟨l,l1,l2,l3⟩:=h.chain hf ha _ x d rfl
 have:=cells_le hf l1 λ y hy=>(l2 y hy).1
 omega
def cellAt (f:Fld) (i:Nat):Cel:=⟨(i:Int) % f.wide,(i:Int) / f.wide⟩
theorem cellAt_at (hf:f.chk=0) (hc:f.isIn c=true):cellAt f (f.at_ c)=c:=by
 obtain ⟨_,_,a2,a3,a4,a5⟩:=Fld.idx hf hc
 have h:=(Fld.at_lt hf hc).2
 unfold cellAt
 rw [h]
 have e1:(c.y * f.wide+c.x) % f.wide=c.x:=by rw [Int.add_comm,Int.add_mul_emod_self_right,Int.emod_eq_of_lt a2 a3]
 have e2:(c.y * f.wide+c.x) / f.wide=c.y:=by rw [Int.add_comm,Int.add_mul_ediv_right _ _ (by omega),Int.ediv_eq_zero_of_lt a2 a3,Int.zero_add]
 rw [e1,e2]
theorem fr_mk (hf:f.chk=0) {g:Cel→Int} (hg:∀ c,f.isIn c=false→g c= -1):f.fr ((List.range f.places.length).map λ i=>g (cellAt f i)) c=g c:=by
 cases hc:f.isIn c with
 | false=>rw [Fld.fr_out hc,hg c hc]
 | true =>
  rw [Fld.fr_in hc,List.getD_eq_getElem?_getD,List.getElem?_map,List.getElem?_range (Fld.at_lt hf hc).1]
  show g (cellAt f (f.at_ c))=g c
  rw [cellAt_at hf hc]
theorem pend_ex (hf:f.chk=0) (ha:f.ground a=true) (b:Cel):∃ far,PEnd f a b far:=by
 let Q:Cel→Int→Prop:=λ c d=>DstF f a c d∧∀ D,DstF f a b D→d+Fld.est b c≤D
 let g:Cel→Int:=λ c=>@dite _ (∃ d,Q c d) (Classical.propDecidable _) (λ h=>h.choose) λ _=> -1
 have gp:∀ c d,Q c d→g c=d:=λ c d h=>by
  have hex:∃ d,Q c d:=⟨d,h⟩
  show @dite _ (∃ d,Q c d) (Classical.propDecidable _) (λ h=>h.choose) (λ _=> -1)=d
  rw [dif_pos hex]
  exact hex.choose_spec.1.uniq h.1
 have gn:∀ c,(¬ ∃ d,Q c d)→g c= -1:=λ c h=>by
  show @dite _ (∃ d,Q c d) (Classical.propDecidable _) (λ h=>h.choose) (λ _=> -1)= -1
  rw [dif_neg h]
 have gi:∀ c,0≤g c→Q c (g c):=λ c h=>by
  by_cases hex:∃ d,Q c d
  ·obtain ⟨d,hd⟩:=hex
   rw [gp c d hd];exact hd
  ·rw [gn c hex] at h;omega
 have go:∀ c,f.isIn c=false→g c= -1:=λ c hc=>gn c λ ⟨d,hd⟩=>by
  have:=Fld.ground_in (RchF.ground ha hd.1.1);rw [hc] at this;cases this
 have hfr:∀ c,f.fr ((List.range f.places.length).map λ i=>g (cellAt f i)) c=g c:=λ c=>fr_mk hf go
 refine ⟨(List.range f.places.length).map λ i=>g (cellAt f i),by rw [List.length_map,List.length_range],⟨λ c h=> ?_,λ c h=> ?_,λ c d hd hle=> ?_,λ c h=> ?_⟩,λ c=> ?_,λ c h=> ?_⟩
 ·rw [hfr c] at h ⊢
  by_cases hex:∃ d,Q c d
  ·obtain ⟨d,hd⟩:=hex
   rw [gp c d hd] at h
   have:=RchF.nn hd.1.1;omega
  ·exact gn c hex
 ·rw [hfr c] at h ⊢;exact gi c h
 ·rw [hfr c];exact gp c d ⟨hd,hle⟩
 ·rw [hfr c] at h ⊢
  have hq:=gi c h
  rcases hq.1.pred with h1 | ⟨p,e,h1,h2,h3⟩
  ·exact .inl h1
  ·right
   have he:=Fld.est_step b (Fld.mem_adj.1 h2).1
   have hk:=f.kost_bd (c:=c)
   have hp:g p=e:=gp p e ⟨h1,λ D hD=>by have:=hq.2 D hD;omega⟩
   exact ⟨p,by rw [hfr p,hp];exact RchF.nn h1.1,h2,by rw [hfr p,hp];exact h3⟩
 ·rw [hfr c]
  by_cases h:0≤g c
  ·have:=(gi c h).1.bd hf ha;omega
  ·omega
 ·rw [hfr c] at h;exact RchF.ground ha (gi c h).1.1
theorem frF_spec (hf:f.chk=0) (ha:f.ground a=true):Gra.Spec f.adj f.kost (Fld.est b) (λ s=>s=a) b (frF f a b):=by
 obtain ⟨far,h⟩:=pend_ex hf ha b
 rw [← h.frE];exact h.spec
theorem frF_dst (hf:f.chk=0) (ha:f.ground a=true) (h:0≤frF f a b c):DstF f a c (frF f a b c):=((frF_spec hf ha).dist c h).1
theorem frF_end (hf:f.chk=0) (ha:f.ground a=true) (h:DstF f a b d):frF f a b b=d:=(frF_spec hf ha).end_ (Fld.est_self b) h
theorem frF_rch (hf:f.chk=0) (ha:f.ground a=true) (h:RchF f a b d):0≤frF f a b b∧frF f a b b≤d:=by
 obtain ⟨e,he⟩:=Gra.Rch.isD (Fld.okZ f) h
 rw [frF_end hf ha he];exact ⟨RchF.nn he.1,he.2 _ h⟩
theorem frF_frs (hf:f.chk=0) (ha:f.ground a=true) (h:0≤frF f a b b):Frs f a (frF f a b):=by
 obtain ⟨far,hp⟩:=pend_ex hf ha b
 exact Frs.ofF hp h
theorem wayB_in (h:Frs f a fr):∀ (n:Nat) (c:Cel),0≤fr c→(fr c).toNat=n→∀ x∈wayB f fr a c,0≤fr x∧fr x≤fr c∧f.ground x=true:=by
 intro n
 induction n using Nat.strongRecOn with
 | ind n ih =>
  intro c hc hn x hx
  by_cases e:c=a
  ·subst e
   rw [wayB_self h] at hx
   rw [List.mem_singleton.1 hx];exact ⟨hc,Int.le_refl _,h.gr _ hc⟩
  ·obtain ⟨p1,p2,p3,p4⟩:=h.prev hc e
   have hk:=f.kost_bd (c:=c)
   rw [wayB_step h hc e] at hx
   rcases List.mem_cons.1 hx with rfl | hx
   ·exact ⟨hc,Int.le_refl _,h.gr _ hc⟩
   ·obtain ⟨q1,q2,q3⟩:=ih _ (by omega) _ p3 rfl x hx
    exact ⟨q1,by omega,q3⟩
theorem find_dat (he:findE f a b=0):f.chk=0∧f.ground a=true∧f.ground b=true∧0≤frF f a b b∧findK f a b=frF f a b b∧findP f a b=(wayB f (frF f a b) a b).reverse:=by
 rcases find_cases f a b with ⟨h1,h2⟩ | ⟨h1,h2,h3⟩ | ⟨h1,h2,h3,h4⟩ | ⟨h1,h2,h3,h4 | h4⟩
 ·rw [h2] at he;exact absurd he h1
 ·rw [h3] at he;exact absurd he h2
 ·rw [h4] at he;cases he
 ·rw [h4.2] at he;cases he
 ·refine ⟨h1,h2,h3,h4.1, ?_, ?_⟩
  ·unfold findK;rw [if_pos he]
  ·unfold findP;rw [if_pos he]
end
end
section
open Go.RowKit
def marchT:List Trp:= [⟨1,0,1,⟨2,0⟩,10,0⟩]
def marchG:List Gox:= [⟨1,⟨2,0⟩⟩]
end
section
open Go.RowKit
def Apart (s t:Trp):Prop:=s.id<t.id∧s.spot≠t.spot
theorem getD_of {α:Type} [Inhabited α] {l:List α} {i:Nat} {t:α} (h:l[i]? =some t):l.getD i default=t:=by rw [List.getD_eq_getElem?_getD,h];rfl
theorem Good.ids_up {W:Wd} (hG:Good W) {i j:Nat} {s t:Trp} (hij:i<j) (hs:W.troops[i]? =some s) (ht:W.troops[j]? =some t):s.id<t.id:=by
 induction j generalizing t with
 | zero=>omega
 | succ j ih =>
  have hj:=(List.getElem?_eq_some_iff.1 ht).1
  obtain ⟨u,hu⟩:=get_of (l:=W.troops) (i:=j) (by omega)
  have h1:=(hG.ids (j+1) t ht).1
  have h2:W.lastId (j+1)=u.id:=by
   unfold Wd.lastId
   rw [if_neg (by omega),Nat.add_sub_cancel,getD_of hu]
  rcases Nat.lt_succ_iff_lt_or_eq.1 hij with h | rfl
  ·have:=ih h hu;omega
  ·rw [hs] at hu;injection hu with hu;subst hu;omega
theorem Good.pw {W:Wd} (hG:Good W):W.troops.Pairwise Apart:=by
 rw [List.pairwise_iff_getElem]
 intro i j hi hj hij
 have hs:=List.getElem?_eq_getElem hi
 have ht:=List.getElem?_eq_getElem hj
 refine ⟨hG.ids_up hij hs ht,λ e=> ?_⟩
 have h1:=hG.spots j _ ht
 rw [← e] at h1
 have:(W.spots j).contains (W.troops[i]).spot=true:=by
  rw [List.contains_iff_mem]
  unfold Wd.spots
  exact List.mem_map.2 ⟨_,List.mem_iff_getElem?.2 ⟨i,by rw [List.getElem?_take,if_pos hij,hs]⟩,rfl⟩
 rw [this] at h1
 exact nomatch h1
theorem Good.each {W:Wd} (hG:Good W) {t:Trp} (ht:t∈W.troops):0<t.id∧t.id<W.next∧TroopOk W.field W.bases.length t:=by
 obtain ⟨i,hi⟩:=List.mem_iff_getElem?.1 ht
 have h1:=hG.ids i t hi
 exact ⟨by omega,h1.2.1,hG.troops i t hi⟩
theorem Good.of_pw {W V:Wd} (hG:Good W) (hf:V.field=W.field) (hb:V.bases=W.bases) (hs:V.stocks=W.stocks) (hm:V.mines=W.mines) (hn:V.next=W.next) (ho:0≤V.now∧V.now≤1000000) (hl:V.troops.length≤100) (hP:V.troops.Pairwise Apart)
  (hall:∀ t∈V.troops,0<t.id∧t.id<V.next∧TroopOk V.field V.bases.length t):Good V where
 field:=by rw [hf];exact hG.field
 nb:=by rw [hb];exact hG.nb
 nt:=hl
 sl:=by rw [hs,hb];exact hG.sl
 bases:=by rw [hb,hf];exact hG.bases
 stocks:=by rw [hs];exact hG.stocks
 ml:=by rw [hm,hf];exact hG.ml
 mines:=by rw [hm,hf];exact hG.mines
 troops:=λ i t ht=>(hall t (List.mem_of_getElem? ht)).2.2
 ids:=λ i t ht=>by
  have h1:=hall t (List.mem_of_getElem? ht)
  unfold Wd.lastId
  split
  ·exact ⟨h1.1,h1.2.1,Int.le_refl _⟩
  ·rename_i h0
   have hi:=(List.getElem?_eq_some_iff.1 ht).1
   obtain ⟨u,hu⟩:=get_of (l:=V.troops) (i:=i - 1) (by omega)
   rw [getD_of hu]
   have h2:=hall u (List.mem_of_getElem? hu)
   have h3:=(List.pairwise_iff_getElem.1 hP) (i - 1) i (by omega) hi (by omega)
   have e1:V.troops[i - 1]'(by omega)=u:=(List.getElem?_eq_some_iff.1 hu).2
   have e2:V.troops[i]=t:=(List.getElem?_eq_some_iff.1 ht).2
   rw [e1,e2] at h3
   exact ⟨h3.1,h1.2.1,by omega⟩
 spots:=λ i t ht=>by
  rw [Bool.eq_false_iff]
  intro hc
  rw [List.contains_iff_mem] at hc
  unfold Wd.spots at hc
  obtain ⟨s,hs1,hs2⟩:=List.mem_map.1 hc
  obtain ⟨j,hj⟩:=List.mem_iff_getElem?.1 hs1
  rw [List.getElem?_take] at hj
  split at hj
  ·rename_i hji
   have hi:=(List.getElem?_eq_some_iff.1 ht).1
   have h3:=(List.pairwise_iff_getElem.1 hP) j i (by omega) hi hji
   have e1:V.troops[j]'(by omega)=s:=(List.getElem?_eq_some_iff.1 hj).2
   have e2:V.troops[i]=t:=(List.getElem?_eq_some_iff.1 ht).2
   rw [e1,e2] at h3
   exact h3.2 hs2
  ·exact nomatch hj
 next:=by rw [hn];exact hG.next
 now:=ho
end
section
open Go.RowKit
def trOfD (l:List Trp) (x:Int):Option Trp:=l.find? λ t=>t.id == x
def trOfV (l:List Trp) (x:Int):Value:= .tuple #[.agg ((trOfD l x).getD default).cells.toArray, .bool (trOfD l x).isSome]
def sortedI (l:List Int):Bool:=(List.range (l.length - 1)).all λ i=> !decide (l.getD (i+1) 0<l.getD i 0)
theorem sorted_yes {l:List Int} (h:∀ i,i+1<l.length→¬ l.getD (i+1) 0<l.getD i 0):sortedI l=true:=by
 unfold sortedI
 rw [List.all_eq_true]
 intro i hi
 have:=h i (by have:=List.mem_range.1 hi;omega)
 simpa using this
def revN {α:Type} (l:List α) (k:Nat):List α:=l.mapIdx λ i x=>if i<k∨l.length - k≤i then (l[l.length - 1 - i]?).getD x else x
end
section
open Go.RowKit
def hurts (W:Wd) (l:List Blw):List Trp:=(List.range W.troops.length).map (hurt W.troops (harmW W l))
structure Struck (W:Wd) (l:List Blw):Prop where
 good:Good W
 hW:struckW W l= {W with troops:=(hurts W l).filter λ t=>decide (0<t.life)}
 hG:struckG W l=((hurts W l).filter λ t=> !decide (0<t.life)).map Trp.id
 harm:∀ k,0≤(harmW W l).getD k 0
 hl:(harmW W l).length=W.troops.length
theorem struck_of {W:Wd} {l:List Blw} (h:blowE W l=0):Struck W l :=
 ⟨Good.of_chk (blowE_ok h).1,(struck_ok h rfl).1,(struck_ok h rfl).2,λ k=>((harm_of h).2 k).1,(harm_of h).1⟩
theorem hurts_len (W:Wd) (l:List Blw):(hurts W l).length=W.troops.length:=by simp [hurts]
theorem hurts_get {W:Wd} {l:List Blw} {k:Nat} {t:Trp} (h:W.troops[k]? =some t):(hurts W l)[k]? =some {t with life:=t.life - (harmW W l).getD k 0}:=by
 have hk:=(List.getElem?_eq_some_iff.1 h).1
 unfold hurts
 rw [List.getElem?_map,List.getElem?_range hk,Option.map_some]
 unfold hurt
 rw [getD_of h]
theorem hurts_mem {W:Wd} {l:List Blw} {x:Trp} (h:x∈hurts W l):∃ (k:Nat) (t:Trp),W.troops[k]? =some t∧x= {t with life:=t.life - (harmW W l).getD k 0}:=by
 obtain ⟨k,hk⟩:=List.mem_iff_getElem?.1 h
 have hlt:=(List.getElem?_eq_some_iff.1 hk).1
 rw [hurts_len] at hlt
 obtain ⟨t,ht⟩:=get_of hlt
 rw [hurts_get ht] at hk
 injection hk with hk
 exact ⟨k,t,ht,hk.symm⟩
theorem Struck.pw {W:Wd} {l:List Blw} (h:Struck W l):(hurts W l).Pairwise Apart:=by
 rw [List.pairwise_iff_getElem]
 intro i j hi hj hij
 rw [hurts_len] at hi hj
 obtain ⟨s,hs⟩:=get_of hi
 obtain ⟨t,ht⟩:=get_of hj
 have e1:=(List.getElem?_eq_some_iff.1 (hurts_get (l:=l) hs)).2
 have e2:=(List.getElem?_eq_some_iff.1 (hurts_get (l:=l) ht)).2
 rw [e1,e2]
 have:=(List.pairwise_iff_getElem.1 h.good.pw) i j hi hj hij
 rw [(List.getElem?_eq_some_iff.1 hs).2,(List.getElem?_eq_some_iff.1 ht).2] at this
 exact this
theorem Struck.right {W:Wd} {l:List Blw} (h:Struck W l):Good (struckW W l):=by
 rw [h.hW]
 refine Good.of_pw h.good rfl rfl rfl rfl rfl h.good.now ?_ (h.pw.filter _) λ t ht=> ?_
 ·exact Nat.le_trans (List.length_filter_le _ _) (by rw [hurts_len];exact h.good.nt)
 ·obtain ⟨ht,hp⟩:=List.mem_filter.1 ht
  obtain ⟨k,s,hs,rfl⟩:=hurts_mem ht
  have h1:=h.good.each (List.mem_of_getElem? hs)
  have h2:=h.harm k
  have h3:=of_decide_eq_true hp
  refine ⟨h1.1,h1.2.1,⟨h1.2.2.kind,h1.2.2.owner,h1.2.2.ground, ?_,h1.2.2.load⟩⟩
  have h4:=h1.2.2.life
  show 1≤s.life - _∧s.life - _≤Wd.lifeOf s.kind
  have h5:0<s.life - (harmW W l).getD k 0:=h3
  omega
theorem sorted_of {l:List Int} (h:l.Pairwise (· < ·)):sortedI l=true:=by
 refine sorted_yes λ i hi=> ?_
 have:=(List.pairwise_iff_getElem.1 h) i (i+1) (by omega) hi (by omega)
 rw [List.getD_eq_getElem?_getD,List.getD_eq_getElem?_getD,List.getElem?_eq_getElem hi,List.getElem?_eq_getElem (by omega:i<l.length)]
 show ¬ l[i+1]<l[i]
 omega
theorem Struck.sorted {W:Wd} {l:List Blw} (h:Struck W l):sortedI (struckG W l)=true:=by
 rw [h.hG]
 refine sorted_of ?_
 rw [List.pairwise_map]
 exact (h.pw.filter _).imp λ h=>h.1
end
section
open Go.RowKit
section
variable {f:Fld} {a b c x y:Cel} {d D:Int}
theorem prev_same (hf:f.chk=0) (ha:f.ground a=true) (hc1:0≤frF f a b c) (hc2:0≤frF f a x c):prevF f (frF f a b) c=prevF f (frF f a x) c:=by
 have key:∀ t n,n∈sidesC c→0≤frF f a t c→((f.ground n && decide (0≤frF f a t n) && decide (frF f a t n+f.kost c=frF f a t c))=true↔∃ e,DstF f a n e∧DstF f a c (e+f.kost c)):=by
  intro t n hn ht
  have hs:=frF_spec (b:=t) hf ha
  have hdc:=frF_dst hf ha ht
  constructor
  ·intro h
   simp only [Bool.and_eq_true,decide_eq_true_eq] at h
   exact ⟨_,frF_dst hf ha h.1.2,by rw [h.2];exact hdc⟩
  ·rintro ⟨e,h1,h2⟩
   have he:=hdc.uniq h2
   have hn2:frF f a t n=e:=hs.known n e h1 λ D hD=>by
    have:=(hs.dist c ht).2 D hD
    have h3:=Fld.est_step t (Fld.sides_symm hn)
    have hk:=f.kost_bd (c:=c)
    omega
   rw [hn2,RchF.ground ha h1.1,decide_eq_true (RchF.nn h1.1),decide_eq_true he.symm];rfl
 unfold prevF
 congr 1
 apply find_congr
 intro n hn
 rw [Bool.eq_iff_iff,key b n hn hc1,key x n hn hc2]
where
 find_congr {p q:Cel→Bool}:∀ {l:List Cel},(∀ n∈l,p n=q n)→l.find? p=l.find? q
  | [],_=>rfl
  | n::l,h=>by
   rw [List.find?_cons,List.find?_cons,h n List.mem_cons_self,find_congr λ m hm=>h m (List.mem_cons_of_mem _ hm)]
theorem wayB_same (hf:f.chk=0) (ha:f.ground a=true) (hb:0≤frF f a b b) (hx:0≤frF f a x x):∀ (n:Nat) (c:Cel),0≤frF f a b c→0≤frF f a x c→(frF f a b c).toNat=n→wayB f (frF f a b) a c=wayB f (frF f a x) a c:=by
 have F1:=frF_frs hf ha hb
 have F2:=frF_frs hf ha hx
 intro n
 induction n using Nat.strongRecOn with
 | ind n ih =>
  intro c h1 h2 hn
  by_cases e:c=a
  ·subst e;rw [wayB_self F1,wayB_self F2]
  ·have hp:=prev_same (b:=b) (x:=x) hf ha h1 h2
   obtain ⟨p1,p2,p3,p4⟩:=F1.prev h1 e
   obtain ⟨q1,q2,q3,q4⟩:=F2.prev h2 e
   have hk:=f.kost_bd (c:=c)
   rw [wayB_step F1 h1 e,wayB_step F2 h2 e,← hp]
   congr 1
   exact ih _ (by omega) _ p3 (by rw [hp];exact q3) rfl
theorem wayB_suffix {fr:Cel→Int} (h:Frs f a fr):∀ (n:Nat) (c:Cel),0≤fr c→(fr c).toNat=n→∀ i,(hi:i<(wayB f fr a c).length)→(wayB f fr a c).drop i=wayB f fr a ((wayB f fr a c)[i])∧RchF f ((wayB f fr a c)[i]) c (fr c - fr ((wayB f fr a c)[i])):=by
 intro n
 induction n using Nat.strongRecOn with
 | ind n ih =>
  intro c hc hn i hi
  by_cases e:c=a
  ·subst e
   rw [wayB_self h] at hi
   have:i=0:=by simpa using hi
   subst this
   simp only [wayB_self h,List.drop_zero,List.getElem_cons_zero]
   exact ⟨by first | trivial | rfl,by rw [Int.sub_self];exact .start rfl⟩
  ·have hst:=wayB_step h hc e
   obtain ⟨p1,p2,p3,p4⟩:=h.prev hc e
   have hk:=f.kost_bd (c:=c)
   cases i with
   | zero =>
    have e0:(wayB f fr a c)[0]=c:=by simp only [hst,List.getElem_cons_zero]
    rw [e0,List.drop_zero,Int.sub_self];exact ⟨rfl, .start rfl⟩
   | succ i =>
    have hi':i<(wayB f fr a (prevF f fr c)).length:=by rw [hst] at hi;simpa using hi
    obtain ⟨k1,k2⟩:=ih _ (by omega) _ p3 rfl i hi'
    have e1:(wayB f fr a c)[i+1]=(wayB f fr a (prevF f fr c))[i]:=by simp only [hst,List.getElem_cons_succ]
    rw [e1]
    refine ⟨by rw [← k1,hst,List.drop_succ_cons], ?_⟩
    have r:RchF f _ c (fr (prevF f fr c) - fr ((wayB f fr a (prevF f fr c))[i])+f.kost c):= .step k2 (Fld.mem_adj.2 ⟨Fld.sides_symm p1,h.gr c hc⟩)
    rw [show fr c - fr ((wayB f fr a (prevF f fr c))[i])=fr (prevF f fr c) - fr ((wayB f fr a (prevF f fr c))[i])+f.kost c by omega]
    exact r
theorem way_part (he:findE f a b=0) {n:Nat} (hn:n<(findP f a b).length) {x:Cel} (hx:(findP f a b).getD n default=x):findE f a x=0∧findE f x b=0∧findP f a x=(findP f a b).take (n+1)∧findK f a x+findK f x b=findK f a b:=by
 obtain ⟨hf,ha,hb,h0,hk,hp⟩:=find_dat he
 have F:=frF_frs hf ha h0
 have hl:(findP f a b).length=(wayB f (frF f a b) a b).length:=by rw [hp,List.length_reverse]
 have hi:(wayB f (frF f a b) a b).length - 1 - n<(wayB f (frF f a b) a b).length:=by omega
 obtain ⟨s1,s2⟩:=wayB_suffix F _ b h0 rfl _ hi
 have ex:(wayB f (frF f a b) a b)[(wayB f (frF f a b) a b).length - 1 - n]=x:=by
  rw [getD_dd hn] at hx
  rw [← hx]
  simp only [hp,List.getElem_reverse]
 rw [ex] at s1 s2
 have hxm:x∈wayB f (frF f a b) a b:=by rw [← ex];exact List.getElem_mem hi
 obtain ⟨x1,x2,x3⟩:=wayB_in F _ b h0 rfl x hxm
 have hdx:=frF_dst hf ha x1
 have e1:=frF_end hf ha hdx
 have hx0:0≤frF f a x x:=by rw [e1];exact x1
 have hax:=find_ok hf ha x3 hx0
 have r2:=frF_rch hf x3 s2
 have hxb:=find_ok hf x3 hb r2.1
 refine ⟨hax,hxb, ?_, ?_⟩
 ·have hpx:findP f a x=(wayB f (frF f a x) a x).reverse:=by unfold findP;rw [if_pos hax]
  rw [hpx,← wayB_same hf ha h0 hx0 _ x x1 hx0 rfl,← s1,hp,List.reverse_drop,hl.symm.trans hl]
  congr 1
  have:(wayB f (frF f a b) a b).reverse.length=(wayB f (frF f a b) a b).length:=List.length_reverse
  omega
 ·have k1:findK f a x=frF f a x x:=by unfold findK;rw [if_pos hax]
  have k2:findK f x b=frF f x b b:=by unfold findK;rw [if_pos hxb]
  rw [k1,k2,hk,e1]
  have h3:=(frF_dst hf ha h0).2 _ (RchF.tr hdx.1 (frF_dst hf x3 r2.1).1)
  omega
end
end
end Go.Proofs.YtlikikpgmmkjbaaGreat
