import Derived.Test.YtlikikpgmmkjbaaGreatGra
import Derived.Test.YtlikikpgmmkjbaaGreatRvC
import Derived.Test.YtlikikpgmmkjbaaGreatBas
import Derived.Test.YtlikikpgmmkjbaaGreatEqI
import Derived.Test.YtlikikpgmmkjbaaGreatGol
import Derived.Test.YtlikikpgmmkjbaaGreatGolR
import Derived.Test.YtlikikpgmmkjbaaGreatCelK
import Derived.Test.YtlikikpgmmkjbaaGreatPtq
import Derived.Test.YtlikikpgmmkjbaaGreatProg
set_option linter.unusedVariables false
set_option linter.unusedSimpArgs false
set_option maxRecDepth 100000
set_option maxHeartbeats 4000000
namespace Go.Proofs.YtlikikpgmmkjbaaGreat
section
open Go.RowKit
theorem Ptf_eqs_api_Cell:EqS Tryz.prog Cel.cells 49 :=by
 intro a b w
 obtain ⟨a0,a1⟩:=a
 obtain ⟨b0,b1⟩:=b
 simp only [Cel.cells,Cel.mk.injEq]
 constructor
 ·go_simp
  repeat' split
  all_goals simp_all
 ·go_simp
  repeat' split
  all_goals simp_all
theorem Ptf_eqg_api_Cell:(Tryz.prog).eqGuardType (Tryz.prog).depth 49 =false:=by kernel_rfl
theorem Ptf_el_S_api_Cell:ElT Tryz.prog Cel.rep 25 49 16:=ElT.mk_ (z:=Cel.zero) (k:=2) Tryz.underlying25 Cel.info rfl rfl (by decide) Cel.zero_raw
section
variable {f:Fld} {a b c nd:Cel} {fr:Cel→Int} {out L:List Cel} {j:Nat}
theorem b4a_ (p q r:Bool):p=false∨(p=true∧q=false)∨(p=true∧q=true∧r=false)∨(p=true∧q=true∧r=true):=by cases p<;>cases q<;>cases r<;>simp
theorem prev_none (h:∀ i,i<4→(f.ground ((sidesC c).getD i default) && decide (0≤fr ((sidesC c).getD i default)) && decide (fr ((sidesC c).getD i default)+f.kost c=fr c))=false):prevF f fr c=c:=by
 have h0:=h 0 (by decide);have h1:=h 1 (by decide);have h2:=h 2 (by decide);have h3:=h 3 (by decide)
 have e:(sidesC c).find? (λ n=>f.ground n && decide (0≤fr n) && decide (fr n+f.kost c=fr c))=none:=by
  rw [List.find?_eq_none]
  intro x hx
  obtain ⟨i,hi,rfl⟩:=List.mem_iff_getElem.1 hx
  have:=h i hi
  rw [getD_dd hi] at this;rw [this];decide
 unfold prevF;rw [e];rfl
theorem prev_at (hj:j<4) (h:∀ i,i<j→(f.ground ((sidesC c).getD i default) && decide (0≤fr ((sidesC c).getD i default)) && decide (fr ((sidesC c).getD i default)+f.kost c=fr c))=false) (hp:(f.ground ((sidesC c).getD j default) && decide (0≤fr ((sidesC c).getD j default)) && decide (fr ((sidesC c).getD j default)+f.kost c=fr c))=true):prevF f fr c=(sidesC c).getD j default:=by
 have e:(sidesC c).find? (λ n=>f.ground n && decide (0≤fr n) && decide (fr n+f.kost c=fr c))=some ((sidesC c).getD j default):=by
  have hl:(sidesC c).length=4:=rfl
  rw [List.find?_eq_some_iff_getElem]
  refine ⟨hp,j,by omega,(getD_dd (by omega)).symm,λ i hi=> ?_⟩
  have:=h i hi
  rw [getD_dd (by omega)] at this;simp only [this];rfl
 unfold prevF;rw [e];rfl
theorem way_head (f:Fld) (fr:Cel→Int) (a:Cel) (n:Nat) (c:Cel): [c]++(backF f fr a n c).tail=backF f fr a n c:=by
 cases n with
 | zero=>rfl
 | succ n=>unfold backF;split<;>rfl
theorem way_app (h:out++(wayB f fr a c).tail=L) (h2:wayB f fr a c=c::wayB f fr a nd):(out++ [nd])++(wayB f fr a nd).tail=L:=by
 rw [h2,List.tail_cons] at h
 rw [List.append_assoc,show [nd]++(wayB f fr a nd).tail=wayB f fr a nd from way_head _ _ _ _ _];exact h
theorem way_len (h:Frs f a fr):∀ {c:Cel},0≤fr c→((wayB f fr a c).length:Int)≤fr c+1:=by
 have key:∀ n:Nat,∀ c,0≤fr c→(fr c).toNat=n→((wayB f fr a c).length:Int)≤fr c+1:=by
  intro n
  induction n using Nat.strongRecOn with
  | ind n ih =>
   intro c hc hn
   by_cases hne:c=a
   ·subst hne;rw [wayB_self h,h.zero];simp
   ·obtain ⟨p1,p2,p3,p4⟩:=h.prev hc hne
    have hk:=f.kost_bd (c:=c)
    have:=ih (fr (prevF f fr c)).toNat (by omega) _ p3 rfl
    rw [wayB_step h hc hne,List.length_cons];omega
 exact fun {c} hc=>key _ c hc rfl
end
theorem pfind_no (f:Fld) (a b:Cel) (P:Option Addr) (pc:Nat) (w:World) (hP:repI.SHas 8 w P pc f.places) (he:findE f a b≠0):
  Calls Tryz.prog 137 #[.agg #[.int .i64 f.wide, .int .i64 f.high, .slice P f.places.length pc], .agg #[.int .i64 a.x, .int .i64 a.y], .agg #[.int .i64 b.x, .int .i64 b.y]] w (λ e w'=>e= .returned (.tuple #[.slice none 0 0, .int .i64 0, .int .i64 (findE f a b)])∧Ext w w'):=by
 have kE:(findE f a b != 0)=true:=by simpa using he
 refine calls_W (n:=107) Tryz.func137 rfl rfl rfl ?_
 refine sg<|bx rfl rfl rfl rfl λ w_1 b_2 x_3 l_4 B_5=> ?_
 have:=x_3.size
 have z_1:=eT (Ext.rf w) x_3
 have q_7:=B_5.lt
 refine bx rfl rfl rfl rfl λ w_8 b_9 x_10 l_11 B_12=> ?_
 have:=x_10.size
 have z_8:=eT z_1 x_10
 have q_14:=B_12.lt
 refine bx rfl rfl rfl rfl λ w_15 b_16 x_17 l_18 B_19=> ?_
 have:=x_17.size
 have z_15:=eT z_8 x_17
 have q_21:=B_19.lt
 refine va rfl<|va rfl<|va rfl<|nK<|sg<| ?_
 have B_5:=B_5.later (eT x_10 x_17)
 refine vL (ld rfl (B_5.all eF23 eF24))<| ?_
 have B_12:=B_12.later x_17
 refine vL (ld rfl (B_12.all eF3 eF4))<|vL (ld rfl (B_19.all eF3 eF4))<|ca eF48 rfl rfl ((psearched_no f a b P pc _ (hP.keep z_15) he).mono ?_)
 rintro e w_22 ⟨rfl,x_23⟩
 refine ⟨_,rfl, ?_⟩
 have:=x_23.size
 have z_22:=eT z_15 x_23
 refine vm rfl<|vL (ex rfl rfl)<|vL (ex rfl rfl)<|va rfl<|va rfl<|nK<|sq<|sg<|vm rfl<|vL (bne rfl rfl)<|nK<|cT (evb rfl kE)<|sg<|vm rfl<|va rfl<|va rfl<|va rfl<|nK<|rt<| ?_
 refine tT<|tR (.tmp rfl (.tmp rfl (.tmp rfl .nil)))<| ?_
 exact ⟨rfl,z_22⟩
theorem pfind_ok (f:Fld) (a b:Cel) (P:Option Addr) (pc:Nat) (w:World) (hP:repI.SHas 8 w P pc f.places) (hf:f.chk=0) (ga:f.ground a=true) (gb:f.ground b=true) (hfr:0≤frF f a b b):
  Calls Tryz.prog 137 #[.agg #[.int .i64 f.wide, .int .i64 f.high, .slice P f.places.length pc], .agg #[.int .i64 a.x, .int .i64 a.y], .agg #[.int .i64 b.x, .int .i64 b.y]] w (λ e w'=>∃ A c,e= .returned (.tuple #[.slice A (wayB f (frF f a b) a b).reverse.length c, .int .i64 (frF f a b b), .int .i64 0])∧Cel.rep.SOwn 49 16 w' w.heap.size (Rep.blkOf A) A c (wayB f (frF f a b) a b).reverse∧Ext w w'):=by
 obtain ⟨g1,g2,g3,g4,g5,g6⟩:=Fld.good hf
 have hl16:=Fld.len_le hf
 have hib:=Fld.ground_in gb
 obtain ⟨_,_,b1,b2,b3,b4⟩:=Fld.idx hf hib
 refine calls_W (n:=107) Tryz.func137 rfl rfl rfl ?_
 refine sg<|bx rfl rfl rfl rfl λ w_1 b_2 x_3 l_4 B_5=> ?_
 have:=x_3.size
 have z_1:=eT (Ext.rf w) x_3
 have q_7:=B_5.lt
 refine bx rfl rfl rfl rfl λ w_8 b_9 x_10 l_11 B_12=> ?_
 have:=x_10.size
 have z_8:=eT z_1 x_10
 have q_14:=B_12.lt
 refine bx rfl rfl rfl rfl λ w_15 b_16 x_17 l_18 B_19=> ?_
 have:=x_17.size
 have z_15:=eT z_8 x_17
 have q_21:=B_19.lt
 refine va rfl<|va rfl<|va rfl<|nK<|sg<| ?_
 have B_5:=B_5.later (eT x_10 x_17)
 refine vL (ld rfl (B_5.all eF23 eF24))<| ?_
 have B_12:=B_12.later x_17
 refine vL (ld rfl (B_12.all eF3 eF4))<|vL (ld rfl (B_19.all eF3 eF4))<|ca eF48 rfl rfl ((psearched_some f a b P pc _ (hP.keep z_15) hf ga gb hfr).mono ?_)
 rintro e w_22 ⟨p,F,A,cf,c,far,l,rfl,hpe,HB,hpb,HF,hdF,x_23⟩
 refine ⟨_,rfl, ?_⟩
 have:=x_23.size
 have z_22:=eT z_15 x_23
 have qB:=HB.lt
 have uHF:=λ q hq=>(HF.lt q hq).2
 have loHF:=λ q hq=>(HF.lt q hq).1
 obtain ⟨bl1,bl2,bl3⟩:=fr_lt hf hpe.len hib
 have hbl:=λ c=>hpe.bdF c
 have hFr:=Frs.ofF hpe hfr
 refine vm rfl<|vL (ex rfl rfl)<|vL (ex rfl rfl)<|va rfl<|va rfl<|nK<|sq<|sg<|vm rfl<|vL (bne rfl rfl)<|nK<|cF rfl<|sK<|sg<| ?_
 have B_19:=B_19.later x_23
 refine vL (ld rfl (B_19.all eF3 eF4))<|bs (e:= 49) (cs:= [.int .i64 b.x, .int .i64 b.y]) rfl (λ _=>by kernel_rfl) rfl λ w_25 b_26 x_27 l_28 B_29=> ?_
 have:=x_27.size
 have z_25:=eT z_22 x_27
 have q_31:=B_29.lt
 refine va rfl<|nK<|sq<|sg<| ?_
 have B_19:=B_19.later x_27
 refine vL (ld rfl (B_19.all eF3 eF4))<|al rfl eF41 rfl rfl λ w_32 b_33 x_34 l_35 B_36=> ?_
 have:=x_34.size
 have z_32:=eT z_25 x_34
 have q_38:=B_36.lt
 refine st (new:= [.int .i64 b.x, .int .i64 b.y]) rfl rfl B_36 rfl eF4 rfl rfl rfl λ w_39 m_40 B_36=> ?_
 have:=m_40.size
 have z_39:=Ext.mod z_32 m_40 (ge1 (by omega))
 have:=m_40.size
 refine nK<|bk<| ?_
 have B_29:=B_29.later x_34
 have B_29:=B_29.mod m_40 (nm1 (by omega))
 have OL0:=Blk.ownN (R:=Cel.rep) (by_:=16) (B:=w.heap.size) (k:= [b]) B_29 [b.cells] rfl ⟨⟨rfl,okI_iff.2 (by omega),okI_iff.2 (by omega)⟩,trivial⟩ (by simp) (by simp) (by decide) (by omega)
 have eL0:∀ q∈Rep.blkOf (some ⟨b_26,0,none⟩),q=b_26:=λ q hq=>List.mem_singleton.1 hq
 have B_12:=B_12.later (eT x_23 (eT x_27 x_34))
 have B_12:=B_12.mod m_40 (nm1 (by omega))
 have B_19:=B_19.later x_34
 have B_19:=B_19.mod m_40 (nm1 (by omega))
 have HB:=HB.later (eT x_27 x_34)
 have HB:=HB.mod m_40 (nm1 (by omega))
 have HF:=HF.later (eT x_27 x_34)
 have HF:=HF.mod m_40 (fk1 uHF (by omega))
 refine lp (λ mI EI wI=>∃ c1:Cel,∃ bc:Nat,∃ out:List Cel,∃ AL:Option Addr,∃ cL:Nat,EI= [(4, .pointer (some ⟨b_9,0,none⟩)),(5, .pointer (some ⟨b_16,0,none⟩)),(6, .slice none 0 0),(7, .int .i64 0),(8, .int .i64 0),(9, .pointer (some ⟨p,0,none⟩)),(11, .slice AL out.length cL),(12, .pointer (some ⟨bc,0,none⟩))]∧mI=(frF f a b c1).toNat∧Ext w wI∧Blk wI b_9 [.int .i64 a.x, .int .i64 a.y] 49 (0,0)∧Blk wI b_16 [.int .i64 b.x, .int .i64 b.y] 49 (0,0)∧Blk wI p [.int .i64 f.wide, .int .i64 f.high, .slice P f.places.length pc, .int .i64 b.x, .int .i64 b.y, .slice F far.length cf, .slice A ((l:List Nod).length) c] 265 (0,0)∧repI.SOwn 3 8 wI w_15.heap.size (Rep.blkOf F) F cf far∧Blk wI bc [.int .i64 c1.x, .int .i64 c1.y] 49 (0,0)∧Cel.rep.SOwn 49 16 wI w.heap.size (Rep.blkOf AL) AL cL out∧(b_2<bc)∧(b_9<bc)∧(b_16<bc)∧(p<bc)∧(∀ q∈Rep.blkOf F,q<bc)∧(0≤frF f a b c1)∧(out++(wayB f (frF f a b) a c1).tail=wayB f (frF f a b) a b)∧(w.heap.size≤bc)∧(∀ q∈Rep.blkOf AL,q=b_9→False)∧(∀ q∈Rep.blkOf AL,q=b_16→False)∧(∀ q∈Rep.blkOf AL,q=p→False)∧(∀ q∈Rep.blkOf AL,q=bc→False)∧(∀ q∈Rep.blkOf AL,q∈Rep.blkOf F→False)) _ _ ⟨b,b_33, [b],some ⟨b_26,0,none⟩,1,rfl,rfl,z_39,B_12,B_19,HB,HF,B_36,OL0,(by omega),(by omega),(by omega),(by omega),(λ q hq=>by have:=uHF q hq;omega),hfr,(by unfold wayB;exact way_head _ _ _ _ _),(by omega),(λ q hq hb=>by (have:=eL0 q hq;omega)),(λ q hq hb=>by (have:=eL0 q hq;omega)),(λ q hq hb=>by (have:=eL0 q hq;omega)),(λ q hq hb=>by (have:=eL0 q hq;omega)),(λ q hq hb=>by (have:=eL0 q hq;(have:=uHF q hb;omega)))⟩ (sba rfl) ?_
 rintro m_49 E_50 w_48 ⟨c1,bc,out,AL,cL,rfl,rfl,z_48,B_12,B_19,HB,HF,HC1,OL1,hx_b_2,hx_b_9,hx_b_16,hx_p,hbF,hc0,hw1,hbw,d_43,d_44,d_45,d_46,d_47⟩
 have:=z_48.size
 have q_52:=B_12.lt
 have q_53:=B_19.lt
 have q_54:=HB.lt
 have u_55:=λ q hq=>(HF.lt q hq).2
 have q_56:=HC1.lt
 have u_57:=λ q hq=>(OL1.lt q hq).2
 have hbFd:∀ q∈Rep.blkOf F,q=bc→False:=λ q hq hb=>by have:=hbF q hq;omega
 have hci:=Fld.ground_in (hFr.gr c1 hc0)
 have hgc:=hFr.gr c1 hc0
 obtain ⟨_,_,c1a,c1b,c1c,c1d⟩:=Fld.idx hf hci
 have hkc:=f.kost_bd (c:=c1)
 have hkk:=pcK_ground hf hgc
 have hbc1:=hbl c1
 have hlen1:out.length≤4801:=by have h1:=congrArg List.length hw1;rw [List.length_append] at h1;have h2:=way_len hFr hfr;have h3:=hbl b;omega
 refine sq<|sg<|vL (ld rfl (HC1.all eF3 eF4))<|vL (ld rfl (B_12.all eF3 eF4))<|vL (bnS Ptf_eqs_api_Cell Ptf_eqg_api_Cell (p:=c1) (q:=a) rfl rfl)<|nK<| ?_
 refine cb rfl (λ h_58=> ?_) (λ h_58=> ?_)
 ·have hca:c1≠a:=by simpa using h_58
  obtain ⟨p1,p2,p3,p4⟩:=hFr.prev hc0 hca
  have hpw:=wayB_step hFr hc0 hca
  refine sK<|sq<|bk<|sg<|vm rfl<|vL (ld rfl (HC1.all eF3 eF4))<|ca eF42 rfl rfl ((pcost_any w f P F A pc cf c p far l b c1 _ z_48 hf hP HB).mono ?_)
  rintro e w_59 ⟨rfl,x_60⟩
  refine ⟨_,rfl, ?_⟩
  have:=x_60.size
  have z_59:=eT z_48 x_60
  refine vm rfl<|vL (ex rfl rfl)<|vL (ex rfl rfl)<|va rfl<|va rfl<|nK<|sq<|sg<| ?_
  have HC1:=HC1.later x_60
  refine vL (ld rfl (HC1.all eF3 eF4))<|ca eF40 rfl rfl ((psides_any c1 _ (by first | omega | (dsimp only;omega))).mono ?_)
  rintro e w_62 ⟨rfl,x_63⟩
  refine ⟨_,rfl, ?_⟩
  have:=x_63.size
  have z_62:=eT z_59 x_63
  refine vm rfl<|nK<|bk<| ?_
  have B_12:=B_12.later (eT x_60 x_63)
  have B_19:=B_19.later (eT x_60 x_63)
  have HB:=HB.later (eT x_60 x_63)
  have HF:=HF.later (eT x_60 x_63)
  have HC1:=HC1.later x_63
  have OL1:=OL1.later (eT x_60 x_63)
  refine lp (λ mI EI wI=>∃ j:Nat,EI= [(4, .pointer (some ⟨b_9,0,none⟩)),(5, .pointer (some ⟨b_16,0,none⟩)),(6, .slice none 0 0),(7, .int .i64 0),(8, .int .i64 0),(9, .pointer (some ⟨p,0,none⟩)),(11, .slice AL out.length cL),(12, .pointer (some ⟨bc,0,none⟩)),(13, .int .i64 (pcK f c1)),(32, .agg #[.int .i64 c1.x, .int .i64 c1.y]),(33, .agg #[.int .i64 a.x, .int .i64 a.y]),(34, .bool (!decide (c1=a))),(35, .tuple #[.int .i64 (pcK f c1), .bool (f.ground c1)]),(36, .pointer (some ⟨p,0,none⟩)),(37, .agg #[.int .i64 c1.x, .int .i64 c1.y]),(38, .tuple #[.int .i64 (pcK f c1), .bool (f.ground c1)]),(39, .int .i64 (pcK f c1)),(40, .bool (f.ground c1)),(41, .agg #[.int .i64 c1.x, .int .i64 c1.y]),(42, .agg #[.int .i64 c1.x, .int .i64 (c1.y - 1), .int .i64 (c1.x - 1), .int .i64 c1.y, .int .i64 (c1.x+1), .int .i64 c1.y, .int .i64 c1.x, .int .i64 (c1.y+1)]),(43, .int .i64 (j:Int))]∧mI=4 - j∧Ext w wI∧Blk wI b_9 [.int .i64 a.x, .int .i64 a.y] 49 (0,0)∧Blk wI b_16 [.int .i64 b.x, .int .i64 b.y] 49 (0,0)∧Blk wI p [.int .i64 f.wide, .int .i64 f.high, .slice P f.places.length pc, .int .i64 b.x, .int .i64 b.y, .slice F far.length cf, .slice A ((l:List Nod).length) c] 265 (0,0)∧repI.SOwn 3 8 wI w_15.heap.size (Rep.blkOf F) F cf far∧Blk wI bc [.int .i64 c1.x, .int .i64 c1.y] 49 (0,0)∧Cel.rep.SOwn 49 16 wI w.heap.size (Rep.blkOf AL) AL cL out∧(j≤4)∧(∀ i,i<j→(f.ground ((sidesC c1).getD i default) && decide (0≤frF f a b ((sidesC c1).getD i default)) && decide (frF f a b ((sidesC c1).getD i default)+f.kost c1=frF f a b c1))=false)) _ _ ⟨0,rfl,rfl,z_62,B_12,B_19,HB,HF,HC1,OL1,by omega,λ i hi=>by omega⟩ (.cons rfl (.cons rfl (.cons rfl (.cons rfl (.cons rfl (.cons rfl (.cons rfl (.cons rfl (.cons rfl (.cons rfl (.cons rfl (.cons rfl (.cons rfl (.cons rfl (.cons rfl (.cons rfl (.cons rfl (.cons rfl (.cons rfl (.cons rfl (.cons (loI rfl (by first | omega | rfl | (simp<;>omega))) .nil))))))))))))))))))))) ?_
  rintro m_66 E_67 w_65 ⟨j,rfl,rfl,z_65,B_12,B_19,HB,HF,HC1,OL1,hj,hno⟩
  have:=z_65.size
  have q_69:=B_12.lt
  have q_70:=B_19.lt
  have q_71:=HB.lt
  have u_72:=λ q hq=>(HF.lt q hq).2
  have q_73:=HC1.lt
  have u_74:=λ q hq=>(OL1.lt q hq).2
  refine sg<|vL (blt rfl rfl)<|nK<|sq<| ?_
  refine clt rfl (λ h_75=> ?_) (λ h_75=> ?_)
  ·refine sK<|sq<|bk<|sg<| ?_
   obtain ⟨nd,hnd⟩:∃ nd,(sidesC c1).getD j default=nd:=⟨_,rfl⟩
   have hnb:=sides_bd (c:=c1) (j:=j) (by omega)
   rw [hnd] at hnb
   refine vL (ixk rfl rfl (psides_ix c1 j (by omega) hnd _))<|al rfl eF41 rfl rfl λ w_76 b_77 x_78 l_79 B_80=> ?_
   have:=x_78.size
   have z_76:=eT z_65 x_78
   have q_82:=B_80.lt
   refine st (new:= [.int .i64 nd.x, .int .i64 nd.y]) rfl rfl B_80 rfl eF4 rfl rfl rfl λ w_83 m_84 B_80=> ?_
   have:=m_84.size
   have z_83:=Ext.mod z_76 m_84 (ge1 (by omega))
   have:=m_84.size
   refine nK<|sg<|vm rfl<|vL (ld rfl (B_80.all eF3 eF4))<| ?_
   have HB:=HB.later x_78
   have HB:=HB.mod m_84 (nm1 (by omega))
   refine ca eF42 rfl rfl ((pcost_any w f P F A pc cf c p far l b nd _ z_83 hf hP HB).mono ?_)
   rintro e w_87 ⟨rfl,x_88⟩
   refine ⟨_,rfl, ?_⟩
   have:=x_88.size
   have z_87:=eT z_83 x_88
   refine vm rfl<|vL (ex rfl rfl)<|vL (ex rfl rfl)<|va rfl<|va rfl<|nK<|sq<| ?_
   rcases b4a_ (f.ground nd) (decide (0≤frF f a b nd)) (((frF f a b nd)+(pcK f c1))== (frF f a b c1)) with c0 | ⟨c0,k1_⟩ | ⟨c0,k1_,k2_⟩ | ⟨c0,k1_,k2_⟩
   ·have hn1:(f.ground nd && decide (0≤frF f a b nd) && decide (frF f a b nd+f.kost c1=frF f a b c1))=false:=by rw [c0];rfl
    refine rd [(5,0),(7,0),(8,0),(10,0),(17,0),(19,0),(20,0),(22,0),(28,0),(30,0),(31,0),(33,0)] [0,1,2,3,4,5,6,7,8,9,10,11,12,13,14,15,16,17,18,19,20,21,22,23,24,25,26,27,28,29,30,31,32,33,34,35] (by kernel_rfl) (by kernel_rfl) ?_
    refine fw1 rfl (λ _=>mv (evb rfl c0))<|fw1 rfl (λ _=>mv rfl)<|fW (v:=undef) rfl rfl rfl rfl rfl rfl (λ hc=>nomatch hc) rfl<|fW (v:=undef) rfl rfl rfl rfl rfl rfl (λ hc=>nomatch hc) rfl<|fW (v:=undef) rfl rfl rfl rfl rfl rfl (λ hc=>nomatch hc) rfl<|fQ (v:=undef) rfl rfl rfl rfl rfl rfl (λ hc=>nomatch hc) rfl<|fW (v:=undef) rfl rfl rfl rfl rfl rfl (λ hc=>nomatch hc) rfl<|fQ (v:=undef) rfl rfl rfl rfl rfl rfl (λ hc=>nomatch hc) rfl<|fC (v:=undef) (args:= []) rfl rfl rfl rfl rfl rfl eF34 (λ hc=>nomatch hc) (λ hc=>nomatch hc) rfl<|fW (v:=undef) rfl rfl rfl rfl rfl rfl (λ hc=>nomatch hc) rfl<|fQ (v:=undef) rfl rfl rfl rfl rfl rfl (λ hc=>nomatch hc) rfl<|fW (v:=undef) rfl rfl rfl rfl rfl rfl (λ hc=>nomatch hc) rfl<|fw1 rfl (λ _=>pkF rfl rfl)<|fw1 rfl (λ _=>mv rfl)<|fW (v:=undef) rfl rfl rfl rfl rfl rfl (λ hc=>nomatch hc) rfl<|fW (v:=undef) rfl rfl rfl rfl rfl rfl (λ hc=>nomatch hc) rfl<|fW (v:=undef) rfl rfl rfl rfl rfl rfl (λ hc=>nomatch hc) rfl<|fQ (v:=undef) rfl rfl rfl rfl rfl rfl (λ hc=>nomatch hc) rfl<|fW (v:=undef) rfl rfl rfl rfl rfl rfl (λ hc=>nomatch hc) rfl<|fQ (v:=undef) rfl rfl rfl rfl rfl rfl (λ hc=>nomatch hc) rfl<|fC (v:=undef) (args:= []) rfl rfl rfl rfl rfl rfl eF34 (λ hc=>nomatch hc) (λ hc=>nomatch hc) rfl<|fW (v:=undef) rfl rfl rfl rfl rfl rfl (λ hc=>nomatch hc) rfl<|fQ (v:=undef) rfl rfl rfl rfl rfl rfl (λ hc=>nomatch hc) rfl<|fW (v:=undef) rfl rfl rfl rfl rfl rfl (λ hc=>nomatch hc) rfl<| ?_
    refine fW (v:=undef) rfl rfl rfl rfl rfl rfl (λ hc=>nomatch hc) rfl<|fW (v:=undef) rfl rfl rfl rfl rfl rfl (λ hc=>nomatch hc) rfl<|fW (v:=undef) rfl rfl rfl rfl rfl rfl (λ hc=>nomatch hc) rfl<|fW (v:=undef) rfl rfl rfl rfl rfl rfl (λ hc=>nomatch hc) rfl<|fQ (v:=undef) rfl rfl rfl rfl rfl rfl (λ hc=>nomatch hc) rfl<|fW (v:=undef) rfl rfl rfl rfl rfl rfl (λ hc=>nomatch hc) rfl<|fQ (v:=undef) rfl rfl rfl rfl rfl rfl (λ hc=>nomatch hc) rfl<|fC (v:=undef) (args:= []) rfl rfl rfl rfl rfl rfl eF34 (λ hc=>nomatch hc) (λ hc=>nomatch hc) rfl<|fW (v:=undef) rfl rfl rfl rfl rfl rfl (λ hc=>nomatch hc) rfl<|fQ (v:=undef) rfl rfl rfl rfl rfl rfl (λ hc=>nomatch hc) rfl<|fW (v:=undef) rfl rfl rfl rfl rfl rfl (λ hc=>nomatch hc) rfl<|fw1 rfl (λ _=>pkF rfl rfl)<|fn λ w_90 x_91=> ?_
    have:=x_91.size
    have z_90:=eT z_87 x_91
    refine nT<|cF rfl<|sk<|nB<|nT<|rg<|vL (bad rfl rfl (inI (by omega)))<|vm rfl<|nl<| ?_
    have B_12:=B_12.later x_78
    have B_12:=B_12.mod m_84 (nm1 (by omega))
    have B_12:=B_12.later (eT x_88 x_91)
    have B_19:=B_19.later x_78
    have B_19:=B_19.mod m_84 (nm1 (by omega))
    have B_19:=B_19.later (eT x_88 x_91)
    have HB:=HB.later (eT x_88 x_91)
    have HF:=HF.later x_78
    have HF:=HF.mod m_84 (λ q hq h=>by have hb:=List.mem_singleton.1 h;exfalso;(have:=u_72 q hq;have:=uHF q hq;have:=u_55 q hq;omega))
    have HF:=HF.later (eT x_88 x_91)
    have HC1:=HC1.later x_78
    have HC1:=HC1.mod m_84 (nm1 (by omega))
    have HC1:=HC1.later (eT x_88 x_91)
    have OL1:=OL1.later x_78
    have OL1:=OL1.mod m_84 (λ q hq h=>by have hb:=List.mem_singleton.1 h;exfalso;(have:=u_74 q hq;have:=u_57 q hq;omega))
    have OL1:=OL1.later (eT x_88 x_91)
    exact nI _ _ ⟨j+1,rfl,rfl,z_90,B_12,B_19,HB,HF,HC1,OL1,by omega,lt_succ_all hno (by rw [hnd];exact hn1)⟩ (by omega) (.cons rfl (.cons rfl (.cons rfl (.cons rfl (.cons rfl (.cons rfl (.cons rfl (.cons rfl (.cons rfl (.cons rfl (.cons rfl (.cons rfl (.cons rfl (.cons rfl (.cons rfl (.cons rfl (.cons rfl (.cons rfl (.cons rfl (.cons rfl (.cons (loI rfl (by first | omega | rfl | (simp<;>omega))) .nil)))))))))))))))))))))
   ·have hni:=Fld.ground_in c0
    obtain ⟨nl1,nl2,nl3⟩:=fr_lt hf hpe.len hni
    have hn1:(f.ground nd && decide (0≤frF f a b nd) && decide (frF f a b nd+f.kost c1=frF f a b c1))=false:=by rw [c0,k1_];rfl
    refine rd [(5,0),(7,0),(8,0),(10,0),(17,0),(19,0),(20,0),(22,0),(28,0),(30,0),(31,0),(33,0)] [0,1,2,3,4,5,6,7,8,9,10,11,12,13,14,15,16,17,18,19,20,21,22,23,24,25,26,27,28,29,30,31,32,33,34,35] (by kernel_rfl) (by kernel_rfl) ?_
    refine fw1 rfl (λ _=>mv (evb rfl c0))<|fw1 rfl (λ _=>mv rfl)<|fW rfl rfl rfl rfl rfl rfl (λ hc _=>mv rfl) rfl<|fW rfl rfl rfl rfl rfl rfl (λ hc _=>nc rfl) rfl<|fW rfl rfl rfl rfl rfl rfl (λ hc _=>fa eF35 rfl) rfl<| ?_
    have HB:=HB.later x_88
    refine fQ rfl rfl rfl rfl rfl rfl (λ hc _ x=>ld rfl ((HB.later x).one eF36 rfl)) rfl<|fW rfl rfl rfl rfl rfl rfl (λ hc _=>mv rfl) rfl<| ?_
    have B_80:=B_80.later x_88
    refine fQ rfl rfl rfl rfl rfl rfl (λ hc _ x=>ld rfl ((B_80.later x).all eF3 eF4)) rfl<|fC rfl rfl rfl rfl rfl rfl eF34 (λ hc=>rfl) (λ hc _ x=>pindex_any w f P F A pc cf c p far l b nd _ (eT z_87 x) hf hP (HB.later x) (by first | omega | (dsimp only;omega))) rfl<| ?_
    have HF:=HF.later x_78
    have HF:=HF.mod m_84 (λ q hq h=>by have hb:=List.mem_singleton.1 h;exfalso;(have:=u_72 q hq;have:=uHF q hq;have:=u_55 q hq;omega))
    have HF:=HF.later x_88
    refine fW rfl rfl rfl rfl rfl rfl (λ hc _=>iA ((nd.y * f.wide+nd.x).toNat) Tryz.underlying22 eF7 rfl rfl (HF.has.adr (zl ((nd.y * f.wide+nd.x).toNat) (by have h_:=(fr_lt hf hpe.len hni).1;omega))) (by (try simp only [bS] at hc);omega) (by have h_:=(fr_lt hf hpe.len hni).1;omega)) rfl<|fQ rfl rfl rfl rfl rfl rfl (λ hc _ x=>ld rfl (Rep.SHas.one' hcI ((HF.later x).has.adh (zl ((nd.y * f.wide+nd.x).toNat) (by have h_:=(fr_lt hf hpe.len hni).1;omega))) (hpe.get hf hni) rfl eF1)) rfl<|fW rfl rfl rfl rfl rfl rfl (λ hc _=>bge rfl rfl) rfl<|fw1 rfl (λ _=>pkT rfl (evb rfl k1_))<|fw1 rfl (λ _=>mv rfl)<|fW (v:=undef) rfl rfl rfl rfl rfl rfl (λ hc=>nomatch hc) rfl<|fW (v:=undef) rfl rfl rfl rfl rfl rfl (λ hc=>nomatch hc) rfl<|fW (v:=undef) rfl rfl rfl rfl rfl rfl (λ hc=>nomatch hc) rfl<|fQ (v:=undef) rfl rfl rfl rfl rfl rfl (λ hc=>nomatch hc) rfl<|fW (v:=undef) rfl rfl rfl rfl rfl rfl (λ hc=>nomatch hc) rfl<|fQ (v:=undef) rfl rfl rfl rfl rfl rfl (λ hc=>nomatch hc) rfl<|fC (v:=undef) (args:= []) rfl rfl rfl rfl rfl rfl eF34 (λ hc=>nomatch hc) (λ hc=>nomatch hc) rfl<|fW (v:=undef) rfl rfl rfl rfl rfl rfl (λ hc=>nomatch hc) rfl<|fQ (v:=undef) rfl rfl rfl rfl rfl rfl (λ hc=>nomatch hc) rfl<|fW (v:=undef) rfl rfl rfl rfl rfl rfl (λ hc=>nomatch hc) rfl<|fW (v:=undef) rfl rfl rfl rfl rfl rfl (λ hc=>nomatch hc) rfl<|fW (v:=undef) rfl rfl rfl rfl rfl rfl (λ hc=>nomatch hc) rfl<|fW (v:=undef) rfl rfl rfl rfl rfl rfl (λ hc=>nomatch hc) rfl<|fW (v:=undef) rfl rfl rfl rfl rfl rfl (λ hc=>nomatch hc) rfl<|fQ (v:=undef) rfl rfl rfl rfl rfl rfl (λ hc=>nomatch hc) rfl<|fW (v:=undef) rfl rfl rfl rfl rfl rfl (λ hc=>nomatch hc) rfl<|fQ (v:=undef) rfl rfl rfl rfl rfl rfl (λ hc=>nomatch hc) rfl<|fC (v:=undef) (args:= []) rfl rfl rfl rfl rfl rfl eF34 (λ hc=>nomatch hc) (λ hc=>nomatch hc) rfl<|fW (v:=undef) rfl rfl rfl rfl rfl rfl (λ hc=>nomatch hc) rfl<| ?_
    refine fQ (v:=undef) rfl rfl rfl rfl rfl rfl (λ hc=>nomatch hc) rfl<|fW (v:=undef) rfl rfl rfl rfl rfl rfl (λ hc=>nomatch hc) rfl<|fw1 rfl (λ _=>pkF rfl rfl)<|fn λ w_93 x_94=> ?_
    have:=x_94.size
    have z_93:=eT z_87 x_94
    refine nT<|cF rfl<|sk<|nB<|nT<|rg<|vL (bad rfl rfl (inI (by omega)))<|vm rfl<|nl<| ?_
    have B_12:=B_12.later x_78
    have B_12:=B_12.mod m_84 (nm1 (by omega))
    have B_12:=B_12.later (eT x_88 x_94)
    have B_19:=B_19.later x_78
    have B_19:=B_19.mod m_84 (nm1 (by omega))
    have B_19:=B_19.later (eT x_88 x_94)
    have HB:=HB.later x_94
    have HF:=HF.later x_94
    have HC1:=HC1.later x_78
    have HC1:=HC1.mod m_84 (nm1 (by omega))
    have HC1:=HC1.later (eT x_88 x_94)
    have OL1:=OL1.later x_78
    have OL1:=OL1.mod m_84 (λ q hq h=>by have hb:=List.mem_singleton.1 h;exfalso;(have:=u_74 q hq;have:=u_57 q hq;omega))
    have OL1:=OL1.later (eT x_88 x_94)
    exact nI _ _ ⟨j+1,rfl,rfl,z_93,B_12,B_19,HB,HF,HC1,OL1,by omega,lt_succ_all hno (by rw [hnd];exact hn1)⟩ (by omega) (.cons rfl (.cons rfl (.cons rfl (.cons rfl (.cons rfl (.cons rfl (.cons rfl (.cons rfl (.cons rfl (.cons rfl (.cons rfl (.cons rfl (.cons rfl (.cons rfl (.cons rfl (.cons rfl (.cons rfl (.cons rfl (.cons rfl (.cons rfl (.cons (loI rfl (by first | omega | rfl | (simp<;>omega))) .nil)))))))))))))))))))))
   ·have hni:=Fld.ground_in c0
    obtain ⟨nl1,nl2,nl3⟩:=fr_lt hf hpe.len hni
    obtain ⟨ml1,ml2,ml3⟩:=fr_lt hf hpe.len hci
    have hbn1:=hbl nd
    have hnn:=of_decide_eq_true k1_
    have hn1:(f.ground nd && decide (0≤frF f a b nd) && decide (frF f a b nd+f.kost c1=frF f a b c1))=false:=by rw [hkk,beq_eq_false_iff_ne] at k2_;rw [c0,k1_,decide_eq_false k2_];rfl
    refine rd [(5,0),(7,0),(8,0),(10,0),(17,0),(19,0),(20,0),(22,0),(28,0),(30,0),(31,0),(33,0)] [0,1,2,3,4,5,6,7,8,9,10,11,12,13,14,15,16,17,18,19,20,21,22,23,24,25,26,27,28,29,30,31,32,33,34,35] (by kernel_rfl) (by kernel_rfl) ?_
    refine fw1 rfl (λ _=>mv (evb rfl c0))<|fw1 rfl (λ _=>mv rfl)<|fW rfl rfl rfl rfl rfl rfl (λ hc _=>mv rfl) rfl<|fW rfl rfl rfl rfl rfl rfl (λ hc _=>nc rfl) rfl<|fW rfl rfl rfl rfl rfl rfl (λ hc _=>fa eF35 rfl) rfl<| ?_
    have HB:=HB.later x_88
    refine fQ rfl rfl rfl rfl rfl rfl (λ hc _ x=>ld rfl ((HB.later x).one eF36 rfl)) rfl<|fW rfl rfl rfl rfl rfl rfl (λ hc _=>mv rfl) rfl<| ?_
    have B_80:=B_80.later x_88
    refine fQ rfl rfl rfl rfl rfl rfl (λ hc _ x=>ld rfl ((B_80.later x).all eF3 eF4)) rfl<|fC rfl rfl rfl rfl rfl rfl eF34 (λ hc=>rfl) (λ hc _ x=>pindex_any w f P F A pc cf c p far l b nd _ (eT z_87 x) hf hP (HB.later x) (by first | omega | (dsimp only;omega))) rfl<| ?_
    have HF:=HF.later x_78
    have HF:=HF.mod m_84 (λ q hq h=>by have hb:=List.mem_singleton.1 h;exfalso;(have:=u_72 q hq;have:=uHF q hq;have:=u_55 q hq;omega))
    have HF:=HF.later x_88
    refine fW rfl rfl rfl rfl rfl rfl (λ hc _=>iA ((nd.y * f.wide+nd.x).toNat) Tryz.underlying22 eF7 rfl rfl (HF.has.adr (zl ((nd.y * f.wide+nd.x).toNat) (by have h_:=(fr_lt hf hpe.len hni).1;omega))) (by (try simp only [bS] at hc);omega) (by have h_:=(fr_lt hf hpe.len hni).1;omega)) rfl<|fQ rfl rfl rfl rfl rfl rfl (λ hc _ x=>ld rfl (Rep.SHas.one' hcI ((HF.later x).has.adh (zl ((nd.y * f.wide+nd.x).toNat) (by have h_:=(fr_lt hf hpe.len hni).1;omega))) (hpe.get hf hni) rfl eF1)) rfl<|fW rfl rfl rfl rfl rfl rfl (λ hc _=>bge rfl rfl) rfl<|fw1 rfl (λ _=>pkT rfl (evb rfl k1_))<|fw1 rfl (λ _=>mv rfl)<|fW rfl rfl rfl rfl rfl rfl (λ hc _=>mv rfl) rfl<|fW rfl rfl rfl rfl rfl rfl (λ hc _=>nc rfl) rfl<|fW rfl rfl rfl rfl rfl rfl (λ hc _=>fa eF35 rfl) rfl<|fQ rfl rfl rfl rfl rfl rfl (λ hc _ x=>ld rfl ((HB.later x).one eF36 rfl)) rfl<|fW rfl rfl rfl rfl rfl rfl (λ hc _=>mv rfl) rfl<|fQ rfl rfl rfl rfl rfl rfl (λ hc _ x=>ld rfl ((B_80.later x).all eF3 eF4)) rfl<|fC rfl rfl rfl rfl rfl rfl eF34 (λ hc=>rfl) (λ hc _ x=>pindex_any w f P F A pc cf c p far l b nd _ (eT z_87 x) hf hP (HB.later x) (by first | omega | (dsimp only;omega))) rfl<|fW rfl rfl rfl rfl rfl rfl (λ hc _=>iA ((nd.y * f.wide+nd.x).toNat) Tryz.underlying22 eF7 rfl rfl (HF.has.adr (zl ((nd.y * f.wide+nd.x).toNat) (by have h_:=(fr_lt hf hpe.len hni).1;omega))) (by (try simp only [bS] at hc);omega) (by have h_:=(fr_lt hf hpe.len hni).1;omega)) rfl<|fQ rfl rfl rfl rfl rfl rfl (λ hc _ x=>ld rfl (Rep.SHas.one' hcI ((HF.later x).has.adh (zl ((nd.y * f.wide+nd.x).toNat) (by have h_:=(fr_lt hf hpe.len hni).1;omega))) (hpe.get hf hni) rfl eF1)) rfl<|fW rfl rfl rfl rfl rfl rfl (λ hc _=>mv rfl) rfl<|fW rfl rfl rfl rfl rfl rfl (λ hc _=>bad rfl rfl (inI (by (try simp only [bS] at hc);omega))) rfl<|fW rfl rfl rfl rfl rfl rfl (λ hc _=>mv rfl) rfl<|fW rfl rfl rfl rfl rfl rfl (λ hc _=>nc rfl) rfl<|fW rfl rfl rfl rfl rfl rfl (λ hc _=>fa eF35 rfl) rfl<|fQ rfl rfl rfl rfl rfl rfl (λ hc _ x=>ld rfl ((HB.later x).one eF36 rfl)) rfl<|fW rfl rfl rfl rfl rfl rfl (λ hc _=>mv rfl) rfl<| ?_
    have HC1:=HC1.later x_78
    have HC1:=HC1.mod m_84 (nm1 (by omega))
    have HC1:=HC1.later x_88
    refine fQ rfl rfl rfl rfl rfl rfl (λ hc _ x=>ld rfl ((HC1.later x).all eF3 eF4)) rfl<|fC rfl rfl rfl rfl rfl rfl eF34 (λ hc=>rfl) (λ hc _ x=>pindex_any w f P F A pc cf c p far l b c1 _ (eT z_87 x) hf hP (HB.later x) (by first | omega | (dsimp only;omega))) rfl<|fW rfl rfl rfl rfl rfl rfl (λ hc _=>iA ((c1.y * f.wide+c1.x).toNat) Tryz.underlying22 eF7 rfl rfl (HF.has.adr (zl ((c1.y * f.wide+c1.x).toNat) (by have h_:=(fr_lt hf hpe.len hci).1;omega))) (by (try simp only [bS] at hc);omega) (by have h_:=(fr_lt hf hpe.len hci).1;omega)) rfl<|fQ rfl rfl rfl rfl rfl rfl (λ hc _ x=>ld rfl (Rep.SHas.one' hcI ((HF.later x).has.adh (zl ((c1.y * f.wide+c1.x).toNat) (by have h_:=(fr_lt hf hpe.len hci).1;omega))) (hpe.get hf hci) rfl eF1)) rfl<|fW rfl rfl rfl rfl rfl rfl (λ hc _=>beq rfl rfl) rfl<|fw1 rfl (λ _=>pkT rfl (evb rfl k2_))<|fn λ w_96 x_97=> ?_
    have:=x_97.size
    have z_96:=eT z_87 x_97
    refine nT<|cF rfl<|sk<|nB<|nT<|rg<|vL (bad rfl rfl (inI (by omega)))<|vm rfl<|nl<| ?_
    have B_12:=B_12.later x_78
    have B_12:=B_12.mod m_84 (nm1 (by omega))
    have B_12:=B_12.later (eT x_88 x_97)
    have B_19:=B_19.later x_78
    have B_19:=B_19.mod m_84 (nm1 (by omega))
    have B_19:=B_19.later (eT x_88 x_97)
    have HB:=HB.later x_97
    have HF:=HF.later x_97
    have HC1:=HC1.later x_97
    have OL1:=OL1.later x_78
    have OL1:=OL1.mod m_84 (λ q hq h=>by have hb:=List.mem_singleton.1 h;exfalso;(have:=u_74 q hq;have:=u_57 q hq;omega))
    have OL1:=OL1.later (eT x_88 x_97)
    exact nI _ _ ⟨j+1,rfl,rfl,z_96,B_12,B_19,HB,HF,HC1,OL1,by omega,lt_succ_all hno (by rw [hnd];exact hn1)⟩ (by omega) (.cons rfl (.cons rfl (.cons rfl (.cons rfl (.cons rfl (.cons rfl (.cons rfl (.cons rfl (.cons rfl (.cons rfl (.cons rfl (.cons rfl (.cons rfl (.cons rfl (.cons rfl (.cons rfl (.cons rfl (.cons rfl (.cons rfl (.cons rfl (.cons (loI rfl (by first | omega | rfl | (simp<;>omega))) .nil)))))))))))))))))))))
   ·have hni:=Fld.ground_in c0
    obtain ⟨nl1,nl2,nl3⟩:=fr_lt hf hpe.len hni
    obtain ⟨ml1,ml2,ml3⟩:=fr_lt hf hpe.len hci
    have hbn1:=hbl nd
    have hnn:=of_decide_eq_true k1_
    have hpv:prevF f (frF f a b) c1=nd:=by rw [hkk,beq_iff_eq] at k2_;rw [← hnd];exact prev_at (by omega) hno (by rw [hnd,c0,k1_,decide_eq_true k2_];rfl)
    rw [hpv] at p1 p2 p3 p4 hpw
    obtain ⟨_,_,n1a,n1b,n1c,n1d⟩:=Fld.idx hf hni
    have hw2:=way_app hw1 hpw
    refine rd [(5,0),(7,0),(8,0),(10,0),(17,0),(19,0),(20,0),(22,0),(28,0),(30,0),(31,0),(33,0)] [0,1,2,3,4,5,6,7,8,9,10,11,12,13,14,15,16,17,18,19,20,21,22,23,24,25,26,27,28,29,30,31,32,33,34,35] (by kernel_rfl) (by kernel_rfl) ?_
    refine fw1 rfl (λ _=>mv (evb rfl c0))<|fw1 rfl (λ _=>mv rfl)<|fW rfl rfl rfl rfl rfl rfl (λ hc _=>mv rfl) rfl<|fW rfl rfl rfl rfl rfl rfl (λ hc _=>nc rfl) rfl<|fW rfl rfl rfl rfl rfl rfl (λ hc _=>fa eF35 rfl) rfl<| ?_
    have HB:=HB.later x_88
    refine fQ rfl rfl rfl rfl rfl rfl (λ hc _ x=>ld rfl ((HB.later x).one eF36 rfl)) rfl<|fW rfl rfl rfl rfl rfl rfl (λ hc _=>mv rfl) rfl<| ?_
    have B_80:=B_80.later x_88
    refine fQ rfl rfl rfl rfl rfl rfl (λ hc _ x=>ld rfl ((B_80.later x).all eF3 eF4)) rfl<|fC rfl rfl rfl rfl rfl rfl eF34 (λ hc=>rfl) (λ hc _ x=>pindex_any w f P F A pc cf c p far l b nd _ (eT z_87 x) hf hP (HB.later x) (by first | omega | (dsimp only;omega))) rfl<| ?_
    have HF:=HF.later x_78
    have HF:=HF.mod m_84 (λ q hq h=>by have hb:=List.mem_singleton.1 h;exfalso;(have:=u_72 q hq;have:=uHF q hq;have:=u_55 q hq;omega))
    have HF:=HF.later x_88
    refine fW rfl rfl rfl rfl rfl rfl (λ hc _=>iA ((nd.y * f.wide+nd.x).toNat) Tryz.underlying22 eF7 rfl rfl (HF.has.adr (zl ((nd.y * f.wide+nd.x).toNat) (by have h_:=(fr_lt hf hpe.len hni).1;omega))) (by (try simp only [bS] at hc);omega) (by have h_:=(fr_lt hf hpe.len hni).1;omega)) rfl<|fQ rfl rfl rfl rfl rfl rfl (λ hc _ x=>ld rfl (Rep.SHas.one' hcI ((HF.later x).has.adh (zl ((nd.y * f.wide+nd.x).toNat) (by have h_:=(fr_lt hf hpe.len hni).1;omega))) (hpe.get hf hni) rfl eF1)) rfl<|fW rfl rfl rfl rfl rfl rfl (λ hc _=>bge rfl rfl) rfl<|fw1 rfl (λ _=>pkT rfl (evb rfl k1_))<|fw1 rfl (λ _=>mv rfl)<|fW rfl rfl rfl rfl rfl rfl (λ hc _=>mv rfl) rfl<|fW rfl rfl rfl rfl rfl rfl (λ hc _=>nc rfl) rfl<|fW rfl rfl rfl rfl rfl rfl (λ hc _=>fa eF35 rfl) rfl<|fQ rfl rfl rfl rfl rfl rfl (λ hc _ x=>ld rfl ((HB.later x).one eF36 rfl)) rfl<|fW rfl rfl rfl rfl rfl rfl (λ hc _=>mv rfl) rfl<|fQ rfl rfl rfl rfl rfl rfl (λ hc _ x=>ld rfl ((B_80.later x).all eF3 eF4)) rfl<|fC rfl rfl rfl rfl rfl rfl eF34 (λ hc=>rfl) (λ hc _ x=>pindex_any w f P F A pc cf c p far l b nd _ (eT z_87 x) hf hP (HB.later x) (by first | omega | (dsimp only;omega))) rfl<|fW rfl rfl rfl rfl rfl rfl (λ hc _=>iA ((nd.y * f.wide+nd.x).toNat) Tryz.underlying22 eF7 rfl rfl (HF.has.adr (zl ((nd.y * f.wide+nd.x).toNat) (by have h_:=(fr_lt hf hpe.len hni).1;omega))) (by (try simp only [bS] at hc);omega) (by have h_:=(fr_lt hf hpe.len hni).1;omega)) rfl<|fQ rfl rfl rfl rfl rfl rfl (λ hc _ x=>ld rfl (Rep.SHas.one' hcI ((HF.later x).has.adh (zl ((nd.y * f.wide+nd.x).toNat) (by have h_:=(fr_lt hf hpe.len hni).1;omega))) (hpe.get hf hni) rfl eF1)) rfl<|fW rfl rfl rfl rfl rfl rfl (λ hc _=>mv rfl) rfl<|fW rfl rfl rfl rfl rfl rfl (λ hc _=>bad rfl rfl (inI (by (try simp only [bS] at hc);omega))) rfl<|fW rfl rfl rfl rfl rfl rfl (λ hc _=>mv rfl) rfl<|fW rfl rfl rfl rfl rfl rfl (λ hc _=>nc rfl) rfl<|fW rfl rfl rfl rfl rfl rfl (λ hc _=>fa eF35 rfl) rfl<|fQ rfl rfl rfl rfl rfl rfl (λ hc _ x=>ld rfl ((HB.later x).one eF36 rfl)) rfl<|fW rfl rfl rfl rfl rfl rfl (λ hc _=>mv rfl) rfl<| ?_
    have HC1:=HC1.later x_78
    have HC1:=HC1.mod m_84 (nm1 (by omega))
    have HC1:=HC1.later x_88
    refine fQ rfl rfl rfl rfl rfl rfl (λ hc _ x=>ld rfl ((HC1.later x).all eF3 eF4)) rfl<|fC rfl rfl rfl rfl rfl rfl eF34 (λ hc=>rfl) (λ hc _ x=>pindex_any w f P F A pc cf c p far l b c1 _ (eT z_87 x) hf hP (HB.later x) (by first | omega | (dsimp only;omega))) rfl<|fW rfl rfl rfl rfl rfl rfl (λ hc _=>iA ((c1.y * f.wide+c1.x).toNat) Tryz.underlying22 eF7 rfl rfl (HF.has.adr (zl ((c1.y * f.wide+c1.x).toNat) (by have h_:=(fr_lt hf hpe.len hci).1;omega))) (by (try simp only [bS] at hc);omega) (by have h_:=(fr_lt hf hpe.len hci).1;omega)) rfl<|fQ rfl rfl rfl rfl rfl rfl (λ hc _ x=>ld rfl (Rep.SHas.one' hcI ((HF.later x).has.adh (zl ((c1.y * f.wide+c1.x).toNat) (by have h_:=(fr_lt hf hpe.len hci).1;omega))) (hpe.get hf hci) rfl eF1)) rfl<|fW rfl rfl rfl rfl rfl rfl (λ hc _=>beq rfl rfl) rfl<|fw1 rfl (λ _=>pkT rfl (evb rfl k2_))<|fn λ w_99 x_100=> ?_
    have:=x_100.size
    have z_99:=eT z_87 x_100
    refine nT<|cT rfl<|sg<| ?_
    have B_80:=B_80.later x_100
    refine vL (ld rfl (B_80.all eF3 eF4))<| ?_
    have HC1:=HC1.later x_100
    refine st (new:= [.int .i64 nd.x, .int .i64 nd.y]) rfl rfl HC1 rfl eF4 rfl rfl rfl λ w_102 m_103 HC1=> ?_
    have:=m_103.size
    have z_102:=Ext.mod z_99 m_103 (ge1 (by omega))
    have:=m_103.size
    refine nK<|xt<|xN rfl<|xT<|xK<|xB<|nT<|rg<|vm rfl<|vL (ld rfl (HC1.all eF3 eF4))<|bs (e:= 49) (cs:= [.int .i64 nd.x, .int .i64 nd.y]) rfl (λ _=>by kernel_rfl) rfl λ w_106 b_107 x_108 l_109 B_110=> ?_
    have:=x_108.size
    have z_106:=eT z_102 x_108
    have q_112:=B_110.lt
    have OL1:=OL1.later x_78
    have OL1:=OL1.mod m_84 (λ q hq h=>by have hb:=List.mem_singleton.1 h;exfalso;(have:=u_74 q hq;have:=u_57 q hq;omega))
    have OL1:=OL1.later (eT x_88 x_100)
    have OL1:=OL1.mod m_103 (λ q hq h=>by have hb:=List.mem_singleton.1 h;exfalso;(exact d_46 q hq hb))
    have OL1:=OL1.later x_108
    refine ap Ptf_el_S_api_Cell Rep.flat_bare OL1 (Blk.has1 (R:=Cel.rep) (by_:=16) (q:=nd) B_110 ⟨rfl,⟨okI_iff.2 (by (try dsimp only);omega),okI_iff.2 (by (try dsimp only);omega)⟩⟩ (by decide)) rfl rfl (by have hwl:=hlen1;simp only [List.length_cons,List.length_nil];omega) (by have hwl:=hlen1;simp only [List.length_cons,List.length_nil];omega) (by omega) rfl λ w_113 A_114 c_115 m_116 O_117 g_118 n_119=> ?_
    have:=m_116.size
    have z_113:=Ext.mod z_106 m_116 (λ q hq=>Nat.le_trans (by omega) (OL1.lt q hq).1)
    have u_121:=λ q hq=>(O_117.lt q hq).2
    have:=m_116.size
    refine va rfl<|nl<|nB<|nT<|sg<| ?_
    have HC1:=HC1.later x_108
    have HC1:=HC1.mod m_116 (λ hq=>d_46 _ hq rfl)
    refine vL (ld rfl (HC1.all eF3 eF4))<|nK<|rg<|al rfl eF41 rfl rfl λ w_123 b_124 x_125 l_126 B_127=> ?_
    have:=x_125.size
    have z_123:=eT z_113 x_125
    have q_129:=B_127.lt
    refine st (new:= [.int .i64 nd.x, .int .i64 nd.y]) rfl rfl B_127 rfl eF4 rfl rfl rfl λ w_130 m_131 B_127=> ?_
    have:=m_131.size
    have z_130:=Ext.mod z_123 m_131 (ge1 (by omega))
    have:=m_131.size
    refine nl<| ?_
    have B_12:=B_12.later x_78
    have B_12:=B_12.mod m_84 (nm1 (by omega))
    have B_12:=B_12.later (eT x_88 x_100)
    have B_12:=B_12.mod m_103 (nm1 (by omega))
    have B_12:=B_12.later x_108
    have B_12:=B_12.mod m_116 (λ hq=>d_43 _ hq rfl)
    have B_12:=B_12.later x_125
    have B_12:=B_12.mod m_131 (nm1 (by omega))
    have B_19:=B_19.later x_78
    have B_19:=B_19.mod m_84 (nm1 (by omega))
    have B_19:=B_19.later (eT x_88 x_100)
    have B_19:=B_19.mod m_103 (nm1 (by omega))
    have B_19:=B_19.later x_108
    have B_19:=B_19.mod m_116 (λ hq=>d_44 _ hq rfl)
    have B_19:=B_19.later x_125
    have B_19:=B_19.mod m_131 (nm1 (by omega))
    have HB:=HB.later x_100
    have HB:=HB.mod m_103 (nm1 (by omega))
    have HB:=HB.later x_108
    have HB:=HB.mod m_116 (λ hq=>d_45 _ hq rfl)
    have HB:=HB.later x_125
    have HB:=HB.mod m_131 (nm1 (by omega))
    have HF:=HF.later x_100
    have HF:=HF.mod m_103 (λ q hq h=>by have hb:=List.mem_singleton.1 h;exfalso;(exact hbFd q hq hb))
    have HF:=HF.later x_108
    have HF:=HF.mod m_116 (λ q hq h=>by exfalso;(exact d_47 q h hq))
    have HF:=HF.later x_125
    have HF:=HF.mod m_131 (λ q hq h=>by have hb:=List.mem_singleton.1 h;exfalso;(have:=u_72 q hq;have:=uHF q hq;have:=u_55 q hq;omega))
    have HC1:=HC1.later x_125
    have HC1:=HC1.mod m_131 (nm1 (by omega))
    have O_117:=O_117.later x_125
    have O_117:=O_117.mod m_131 (fk1 u_121 (by omega))
    exact nI _ _ ⟨nd,b_124,out++ [nd],A_114,c_115,rfl,rfl,z_130,B_12,B_19,HB,HF,B_127,O_117,(by omega),(by omega),(by omega),(by omega),(λ q hq=>by have:=hbF q hq;omega),p3,hw2,(by omega),(λ q hq hb=>by (exact Or.elim (g_118 q hq) (λ k_134=>by (exact d_43 q k_134 hb)) (λ k_134=>by omega))),(λ q hq hb=>by (exact Or.elim (g_118 q hq) (λ k_135=>by (exact d_44 q k_135 hb)) (λ k_135=>by omega))),(λ q hq hb=>by (exact Or.elim (g_118 q hq) (λ k_136=>by (exact d_45 q k_136 hb)) (λ k_136=>by omega))),(λ q hq hb=>by (have:=u_121 q hq;omega)),(λ q hq hb=>by (exact Or.elim (g_118 q hq) (λ k_137=>by (exact d_47 q k_137 hb)) (λ k_137=>by (have:=u_72 q hb;have:=uHF q hb;have:=u_55 q hb;omega))))⟩ (by omega) (sba rfl)
  ·exfalso
   have e4:j=4:=by omega
   rw [e4] at hno
   exact Fld.sides_ne p1 (prev_none hno)
 ·have hca:c1=a:=by simpa using h_58
  refine xt<|xT<|xK<|xB<|nT<|sg<|vm rfl<|ca eF49 rfl rfl ((reverse_C _ _ w.heap.size out _ OL1 (Cel.all_ok OL1.has)).mono ?_)
  rintro e w_140 ⟨rfl,O_138,m_139⟩
  refine ⟨_,rfl, ?_⟩
  have:=m_139.size
  have z_140:=Ext.mod z_48 m_139 (λ q hq=>(OL1.lt q hq).1)
  refine nK<|sq<| ?_
  refine rd [(4,0),(6,0),(7,0),(9,0)] [0,1,2,3,4,5,6,7,8,9,10,11,12] (by kernel_rfl) (by kernel_rfl) ?_
  refine fw1 rfl (λ _=>mv rfl)<|fw1 rfl (λ _=>mv rfl)<|fw1 rfl (λ _=>nc rfl)<|fw1 rfl (λ _=>fa eF35 rfl)<| ?_
  have HB:=HB.mod m_139 (λ hq=>d_45 _ hq rfl)
  refine fq1 rfl (λ _ x=>ld rfl ((HB.later x).one eF36 rfl))<|fw1 rfl (λ _=>mv rfl)<| ?_
  have B_19:=B_19.mod m_139 (λ hq=>d_44 _ hq rfl)
  refine fq1 rfl (λ _ x=>ld rfl ((B_19.later x).all eF3 eF4))<|fc rfl rfl eF34 rfl (λ _ x=>pindex_any w f P F A pc cf c p far l b b _ (eT z_140 x) hf hP (HB.later x) (by first | omega | (dsimp only;omega))) rfl<| ?_
  have HF:=HF.mod m_139 (λ q hq h=>by exfalso;(exact d_47 q h hq))
  refine fw1 rfl (λ _=>iA ((b.y * f.wide+b.x).toNat) Tryz.underlying22 eF7 rfl rfl (HF.has.adr (zl ((b.y * f.wide+b.x).toNat) (by have h_:=(fr_lt hf hpe.len hib).1;omega))) (by omega) (by have h_:=(fr_lt hf hpe.len hib).1;omega))<|fq1 rfl (λ _ x=>ld rfl (Rep.SHas.one' hcI ((HF.later x).has.adh (zl ((b.y * f.wide+b.x).toNat) (by have h_:=(fr_lt hf hpe.len hib).1;omega))) (hpe.get hf hib) rfl eF1))<|fw1 rfl (λ _=>as_ rfl)<|fw1 rfl (λ _=>as_ rfl)<|fw1 rfl (λ _=>as_ rfl)<|fn λ w_142 x_143=> ?_
  have:=x_143.size
  have z_142:=eT z_140 x_143
  refine nT<|rt<|tR (.tmp rfl (.tmp rfl (.tmp rfl .nil)))<| ?_
  have O_138:=O_138.later x_143
  have hout:out=wayB f (frF f a b) a b:=by rw [hca,wayB_self hFr] at hw1;simpa using hw1
  exact ⟨_,_,by rw [← hout,List.length_reverse];rfl,by rw [← hout];exact O_138,z_142⟩
end
section
open Go.RowKit
section
variable {f:Fld} {a b c x:Cel} {dl far:List Int} {d:Int}
def allC (f:Fld):List Cel:=(List.range f.high.toNat).flatMap λ (y:Nat)=>(List.range f.wide.toNat).map λ (x:Nat)=>(⟨(x:Int),(y:Int)⟩:Cel)
def certC (f:Fld) (a b:Cel) (dl far:List Int) (c:Cel):Bool :=
 (decide (0≤f.fr dl c) || decide (f.fr dl c= -1)) &&
 (!decide (0≤f.fr dl c) || (f.ground c && ((decide (c=a) && decide (f.fr dl c=0)) || (sidesC c).any λ p=>decide (0≤f.fr dl p) && decide (f.fr dl c=f.fr dl p+f.kost c)))) &&
 (!decide (0≤f.fr dl c) || (f.adj c).all λ y=>decide (0≤f.fr dl y) && decide (f.fr dl y≤f.fr dl c+f.kost y)) &&
 decide (f.fr far c=if 0≤f.fr dl c∧(f.fr dl b<0∨f.fr dl c+Fld.est b c≤f.fr dl b) then f.fr dl c else -1) &&
 decide (f.fr dl c≤3 * (f.places.length:Int))
def certB (f:Fld) (a b:Cel) (dl far:List Int):Bool:=decide (far.length=f.places.length) && decide (f.fr dl a=0) && (allC f).all (certC f a b dl far)
end
theorem pfind_any (f:Fld) (a b:Cel) (P:Option Addr) (pc:Nat) (w:World) (hP:repI.SHas 8 w P pc f.places):
  Calls Tryz.prog 137 #[.agg #[.int .i64 f.wide, .int .i64 f.high, .slice P f.places.length pc], .agg #[.int .i64 a.x, .int .i64 a.y], .agg #[.int .i64 b.x, .int .i64 b.y]] w (λ e w'=>∃ A c,e= .returned (.tuple #[.slice A (findP f a b).length c, .int .i64 (findK f a b), .int .i64 (findE f a b)])∧Cel.rep.SOwn 49 16 w' w.heap.size (Rep.blkOf A) A c (findP f a b)∧Ext w w'):=by
 by_cases he:findE f a b=0
 ·rcases find_cases f a b with ⟨h1,h2⟩ | ⟨h1,h2,h3⟩ | ⟨h1,h2,h3,h4⟩ | ⟨h1,h2,h3,h4 | h4⟩
  ·rw [h2] at he;exact absurd he h1
  ·rw [h3] at he;exact absurd he h2
  ·rw [h4] at he;cases he
  ·rw [h4.2] at he;cases he
  ·unfold findP findK
   rw [if_pos he,if_pos he,he]
   exact pfind_ok f a b P pc w hP h1 h2 h3 h4.1
 ·unfold findP findK
  rw [if_neg he,if_neg he]
  exact (pfind_no f a b P pc w hP he).mono λ e w' h=>⟨none,0,h.1,Rep.SOwn.nil _,h.2⟩
section
variable {f:Fld} {a b:Cel} {far:List Int}
end
end
section
open Go.RowKit
theorem clone_I (A:Option Addr) (c:Nat) (l:List Int) (w:World) (h:repI.SHas 8 w A c l):
  Calls Tryz.prog 27 #[.slice A l.length c] w λ e w'=>∃ A' c',e= .returned (.slice A' l.length c')∧repI.SOwn 3 8 w' w.heap.size (Rep.blkOf A') A' c' l∧(A'=none↔A=none)∧Below w.heap.size w w':=by
 obtain ⟨i0,hi,hz0,hz1,hz2⟩:=info_parts info_int
 have qnil:∀ (w:World) (a:Option Addr) (n c n' c':Nat),(binOp .eql 22 (.slice a n c) (.slice none n' c')).run Tryz.prog w= .ok (.bool a.isNone) w:=λ w a n c n' c'=>Lib.run_eql_slice_nil w _ _ a n c n' c' Tryz.underlying22
 cases A with
 | none =>
  obtain rfl:c=0:=h.2.2.2.1 rfl
  obtain rfl:l= []:=List.eq_nil_of_length_eq_zero (by have:=h.1;omega)
  go_enter Tryz.func27,Tryz.ntmps27
  go_wp2_with fail
  go_ret
  exact ⟨none,0,rfl,Rep.SOwn.nil _,by simp,Below.refl _ _⟩
 | some a =>
  have hb0:Below w.heap.size w (w.alloc (.cells #[] 3)):=(Below.refl _ w).alloc (Nat.le_refl _) _
  obtain ⟨n,HN⟩:∃ n,Hid (l.length=n):=⟨_,Lib.hid rfl⟩
  obtain ⟨h1,h2,h3,h4,ess,h5,h6⟩:=h.keep hb0
  have H5:=Lib.hid h5
  have hone:∀ u∈ess.flatten,u.oneCell'=true:=by
   intro u hu
   obtain ⟨y,hy,hu⟩:=List.mem_flatten.1 hu
   obtain ⟨a,ha⟩:=h5.left y hy
   exact repI.one ha u hu
  have hraw:∀ (j:Nat) u,ess.flatten[j]? =some u→repI.raw (j % repI.size) u:=λ j u hu=>flat_raw h5 (by decide) hu
  rw [HN.out] at h1 h3 h6
  have HR:=Lib.hid h6
  have HE:=Lib.hid (Own.empty (e:= 3) (size:=repI.size) (G:=repI.raw) w (Nat.le_refl w.heap.size))
  clear h h4 h5 h6
  rw [HN.out]
  go_enter Tryz.func27,Tryz.ntmps27
  go_wp2_with (at_builtin;refine wpList_append_all _ rfl _ _ 22 rfl w.heap.size 3 i0 (.int .i64 0) repI.size 8 Tryz.underlying22 hi hz0 hz1 hz2 rfl (by decide) repI.raw zI _ _ _ rfl HE.out (some a) n c ess.flatten rfl HR.out hone hraw ?qc4 ?qc5 ?qc6 ?_)
  case qc4=>unfold maxLen;omega
  case qc5=>omega
  case qc6=>simp
  intro v' w1 hown hgrow hnil hat
  have hb1:=hb0.grown hgrow (by simp) (by intro k hk;simp [Value.ownBlock] at hk;omega)
  obtain ⟨A1,c1,rfl,hle,_,_,_,hnn⟩:=hown.shape
  have hA1:A1≠none:=by
   intro h
   subst h
   exact hnil (hnn rfl)
  have HO:Hid (repI.SOwn 3 8 w1 w.heap.size (Rep.blkOf A1) A1 c1 l):=Lib.hid (Rep.SOwn.of_plain repI_plain H5.out (by rw [HN.out];exact h3) (by rw [HN.out];simpa using hown))
  have HA1:=Lib.hid hA1
  clear hgrow hnil hat hown hA1 hnn hone hraw
  go_wp2_with fail
  go_ret
  exact ⟨A1,c1,rfl,HO.out,⟨λ h=>absurd h HA1.out,λ h=>by cases h⟩,hb1⟩
theorem clone_C (A:Option Addr) (c:Nat) (l:List Cel) (w:World) (h:Cel.rep.SHas 16 w A c l):
  Calls Tryz.prog 101 #[.slice A l.length c] w λ e w'=>∃ A' c',e= .returned (.slice A' l.length c')∧Cel.rep.SOwn 49 16 w' w.heap.size (Rep.blkOf A') A' c' l∧(A'=none↔A=none)∧Below w.heap.size w w':=by
 obtain ⟨i0,hi,hz0,hz1,hz2⟩:=info_parts Cel.info
 have qnil:∀ (w:World) (a:Option Addr) (n c n' c':Nat),(binOp .eql 25 (.slice a n c) (.slice none n' c')).run Tryz.prog w= .ok (.bool a.isNone) w:=λ w a n c n' c'=>Lib.run_eql_slice_nil w _ _ a n c n' c' Tryz.underlying25
 cases A with
 | none =>
  obtain rfl:c=0:=h.2.2.2.1 rfl
  obtain rfl:l= []:=List.eq_nil_of_length_eq_zero (by have:=h.1;omega)
  go_enter Tryz.func101,Tryz.ntmps101
  go_wp2_with fail
  go_ret
  exact ⟨none,0,rfl,Rep.SOwn.nil _,by simp,Below.refl _ _⟩
 | some a =>
  have hb0:Below w.heap.size w (w.alloc (.cells #[] 49)):=(Below.refl _ w).alloc (Nat.le_refl _) _
  obtain ⟨n,HN⟩:∃ n,Hid (l.length=n):=⟨_,Lib.hid rfl⟩
  obtain ⟨h1,h2,h3,h4,ess,h5,h6⟩:=h.keep hb0
  have H5:=Lib.hid h5
  have hone:∀ u∈ess.flatten,u.oneCell'=true:=by
   intro u hu
   obtain ⟨y,hy,hu⟩:=List.mem_flatten.1 hu
   obtain ⟨a,ha⟩:=h5.left y hy
   exact Cel.rep.one ha u hu
  have hraw:∀ (j:Nat) u,ess.flatten[j]? =some u→Cel.rep.raw (j % Cel.rep.size) u:=λ j u hu=>flat_raw h5 (by decide) hu
  rw [HN.out] at h1 h3 h6
  have HR:=Lib.hid h6
  have HE:=Lib.hid (Own.empty (e:= 49) (size:=Cel.rep.size) (G:=Cel.rep.raw) w (Nat.le_refl w.heap.size))
  clear h h4 h5 h6
  rw [HN.out]
  go_enter Tryz.func101,Tryz.ntmps101
  go_wp2_with (at_builtin;refine wpList_append_all _ rfl _ _ 25 rfl w.heap.size 49 i0 Cel.zero Cel.rep.size 16 Tryz.underlying25 hi hz0 hz1 hz2 rfl (by decide) Cel.rep.raw Cel.zero_raw _ _ _ rfl HE.out (some a) n c ess.flatten rfl HR.out hone hraw ?qc4 ?qc5 ?qc6 ?_)
  case qc4=>unfold maxLen;omega
  case qc5=>omega
  case qc6=>simp
  intro v' w1 hown hgrow hnil hat
  have hb1:=hb0.grown hgrow (by simp) (by intro k hk;simp [Value.ownBlock] at hk;omega)
  obtain ⟨A1,c1,rfl,hle,_,_,_,hnn⟩:=hown.shape
  have hA1:A1≠none:=by
   intro h
   subst h
   exact hnil (hnn rfl)
  have HO:Hid (Cel.rep.SOwn 49 16 w1 w.heap.size (Rep.blkOf A1) A1 c1 l):=Lib.hid (Rep.SOwn.of_plain Cel.plain H5.out (by rw [HN.out];exact h3) (by rw [HN.out];simpa using hown))
  have HA1:=Lib.hid hA1
  clear hgrow hnil hat hown hA1 hnn hone hraw
  go_wp2_with fail
  go_ret
  exact ⟨A1,c1,rfl,HO.out,⟨λ h=>absurd h HA1.out,λ h=>by cases h⟩,hb1⟩
theorem clone_T (A:Option Addr) (c:Nat) (l:List Trp) (w:World) (h:Trp.rep.SHas 56 w A c l):
  Calls Tryz.prog 26 #[.slice A l.length c] w λ e w'=>∃ A' c',e= .returned (.slice A' l.length c')∧Trp.rep.SOwn 66 56 w' w.heap.size (Rep.blkOf A') A' c' l∧(A'=none↔A=none)∧Below w.heap.size w w':=by
 obtain ⟨i0,hi,hz0,hz1,hz2⟩:=info_parts Trp.info
 have qnil:∀ (w:World) (a:Option Addr) (n c n' c':Nat),(binOp .eql 26 (.slice a n c) (.slice none n' c')).run Tryz.prog w= .ok (.bool a.isNone) w:=λ w a n c n' c'=>Lib.run_eql_slice_nil w _ _ a n c n' c' Tryz.underlying26
 cases A with
 | none =>
  obtain rfl:c=0:=h.2.2.2.1 rfl
  obtain rfl:l= []:=List.eq_nil_of_length_eq_zero (by have:=h.1;omega)
  go_enter Tryz.func26,Tryz.ntmps26
  go_wp2_with fail
  go_ret
  exact ⟨none,0,rfl,Rep.SOwn.nil _,by simp,Below.refl _ _⟩
 | some a =>
  have hb0:Below w.heap.size w (w.alloc (.cells #[] 66)):=(Below.refl _ w).alloc (Nat.le_refl _) _
  obtain ⟨n,HN⟩:∃ n,Hid (l.length=n):=⟨_,Lib.hid rfl⟩
  obtain ⟨h1,h2,h3,h4,ess,h5,h6⟩:=h.keep hb0
  have H5:=Lib.hid h5
  have hone:∀ u∈ess.flatten,u.oneCell'=true:=by
   intro u hu
   obtain ⟨y,hy,hu⟩:=List.mem_flatten.1 hu
   obtain ⟨a,ha⟩:=h5.left y hy
   exact Trp.rep.one ha u hu
  have hraw:∀ (j:Nat) u,ess.flatten[j]? =some u→Trp.rep.raw (j % Trp.rep.size) u:=λ j u hu=>flat_raw h5 (by decide) hu
  rw [HN.out] at h1 h3 h6
  have HR:=Lib.hid h6
  have HE:=Lib.hid (Own.empty (e:= 66) (size:=Trp.rep.size) (G:=Trp.rep.raw) w (Nat.le_refl w.heap.size))
  clear h h4 h5 h6
  rw [HN.out]
  go_enter Tryz.func26,Tryz.ntmps26
  go_wp2_with (at_builtin;refine wpList_append_all _ rfl _ _ 26 rfl w.heap.size 66 i0 Trp.zero Trp.rep.size 56 Tryz.underlying26 hi hz0 hz1 hz2 rfl (by decide) Trp.rep.raw Trp.zero_raw _ _ _ rfl HE.out (some a) n c ess.flatten rfl HR.out hone hraw ?qc4 ?qc5 ?qc6 ?_)
  case qc4=>unfold maxLen;omega
  case qc5=>omega
  case qc6=>simp
  intro v' w1 hown hgrow hnil hat
  have hb1:=hb0.grown hgrow (by simp) (by intro k hk;simp [Value.ownBlock] at hk;omega)
  obtain ⟨A1,c1,rfl,hle,_,_,_,hnn⟩:=hown.shape
  have hA1:A1≠none:=by
   intro h
   subst h
   exact hnil (hnn rfl)
  have HO:Hid (Trp.rep.SOwn 66 56 w1 w.heap.size (Rep.blkOf A1) A1 c1 l):=Lib.hid (Rep.SOwn.of_plain Trp.plain H5.out (by rw [HN.out];exact h3) (by rw [HN.out];simpa using hown))
  have HA1:=Lib.hid hA1
  clear hgrow hnil hat hown hA1 hnn hone hraw
  go_wp2_with fail
  go_ret
  exact ⟨A1,c1,rfl,HO.out,⟨λ h=>absurd h HA1.out,λ h=>by cases h⟩,hb1⟩
end
section
open Go.RowKit
theorem lineC_bd {a b:Cel} (h: -1000≤a.x∧a.x≤1000∧ -1000≤a.y∧a.y≤1000) (h2: -1000≤b.x∧b.x≤1000∧ -1000≤b.y∧b.y≤1000):1≤(lineC a b).length∧(lineC a b).length≤2001∧(lineC a b).length=(far a b).toNat+1:=by
 have h3:=sz_bd (b.x - a.x);have h4:=sz_bd (b.y - a.y)
 unfold lineC;rw [pts_len];unfold far;omega
def Fld.clear (f:Fld) (c:Cel):Bool:= !(f.atV c == 1 || f.atV c == 2)
def bareC (f:Fld) (a b:Cel):Bool:=decide ((lineC a b).length<3) || (((lineC a b).drop 1).take ((lineC a b).length - 1 - 1)).all f.clear
theorem bareC_few {f:Fld} {a b:Cel} (h:(lineC a b).length<3):bareC f a b=true:=by unfold bareC;rw [decide_eq_true h];rfl
theorem bareC_yes {f:Fld} {a b:Cel} (h:∀ i,i<(((lineC a b).drop 1).take ((lineC a b).length - 1 - 1)).length→f.clear ((((lineC a b).drop 1).take ((lineC a b).length - 1 - 1)).getD i default)=true):bareC f a b=true:=by
 unfold bareC
 rw [Bool.or_eq_true]
 refine .inr (List.all_eq_true.2 λ x hx=> ?_)
 obtain ⟨i,hi,rfl⟩:=List.getElem_of_mem hx
 have:=h i hi
 rwa [List.getD_eq_getElem?_getD,List.getElem?_eq_getElem hi] at this
theorem bareC_no {f:Fld} {a b:Cel} {k:Nat} (hk:k<(((lineC a b).drop 1).take ((lineC a b).length - 1 - 1)).length) (h:f.clear ((((lineC a b).drop 1).take ((lineC a b).length - 1 - 1)).getD k default)=false):bareC f a b=false:=by
 unfold bareC
 have h3:¬ (lineC a b).length<3:=by rw [List.length_take,List.length_drop] at hk;omega
 rw [decide_eq_false h3,Bool.false_or]
 rw [List.all_eq_false]
 refine ⟨_,List.getElem_mem hk, ?_⟩
 rw [List.getD_eq_getElem?_getD,List.getElem?_eq_getElem hk] at h
 simpa using h
theorem atE_near {f:Fld} {c:Cel} (h:f.atE c=0):0≤c.x∧c.x<40∧0≤c.y∧c.y<40:=by
 have hc:f.chk=0:=by
  cases hd:decide (f.chk=0) with
  | true=>simpa using hd
  | false=>rw [(Fld.at_bad (by simpa using hd)).1] at h;exact h
 have hi:=atE_zero hc h
 unfold Fld.isIn at hi
 rw [Bool.and_eq_true] at hi
 have h1:=inB_true hi.1
 have h2:=inB_true hi.2
 unfold Fld.chk at hc
 split at hc
 ·rename_i hw
  rw [Bool.and_eq_true] at hw
  have h3:=inB_true hw.1
  have h4:=inB_true hw.2
  omega
 ·omega
def seesE (f:Fld) (a b:Cel):Int:=if f.atE a≠0 then f.atE a else f.atE b
def seesV (f:Fld) (a b:Cel):Bool:=if seesE f a b≠0 then false else bareC f a b || bareC f b a
def seesR (f:Fld) (a b:Cel):Value:= .tuple #[.bool (seesV f a b), .int .i64 (seesE f a b)]
theorem sees_no1 {f:Fld} {a b:Cel} (h:¬ f.atE a=0):seesR f a b= .tuple #[.bool false, .int .i64 (f.atE a)]:=by
 have e:seesE f a b=f.atE a:=by unfold seesE;rw [if_pos h]
 unfold seesR seesV;rw [e,if_pos h]
theorem sees_no2 {f:Fld} {a b:Cel} (h0:f.atE a=0) (h:¬ f.atE b=0):seesR f a b= .tuple #[.bool false, .int .i64 (f.atE b)]:=by
 have e:seesE f a b=f.atE b:=by unfold seesE;rw [if_neg (by simpa using h0)]
 unfold seesR seesV;rw [e,if_pos h]
theorem sees_ok {f:Fld} {a b:Cel} (h0:f.atE a=0) (h:f.atE b=0):seesR f a b= .tuple #[.bool (bareC f a b || bareC f b a), .int .i64 0]:=by
 have e:seesE f a b=0:=by unfold seesE;rw [if_neg (by simpa using h0)];exact h
 unfold seesR seesV;rw [e,if_neg (by simp)]
theorem bare_in (f:Fld) (a b:Cel) (A:Option Addr) (c:Nat) (w:World) (hP:repI.SHas 8 w A c f.places) (h: -1000≤a.x∧a.x≤1000∧ -1000≤a.y∧a.y≤1000) (h2: -1000≤b.x∧b.x≤1000∧ -1000≤b.y∧b.y≤1000):
  Calls Tryz.prog 195 #[.agg #[.int .i64 f.wide, .int .i64 f.high, .slice A f.places.length c], .agg #[.int .i64 a.x, .int .i64 a.y], .agg #[.int .i64 b.x, .int .i64 b.y]] w (λ e w'=>e= .returned (.bool (bareC f a b))∧Ext w w'):=by
 refine calls_W (n:=45) Tryz.func195 rfl rfl rfl ?_
 refine sg<|bx rfl rfl rfl rfl λ w_1 b_2 x_3 l_4 B_5=> ?_
 have:=x_3.size
 have z_1:=eT (Ext.rf w) x_3
 have q_7:=B_5.lt
 refine bx rfl rfl rfl rfl λ w_8 b_9 x_10 l_11 B_12=> ?_
 have:=x_10.size
 have z_8:=eT z_1 x_10
 have q_14:=B_12.lt
 refine bx rfl rfl rfl rfl λ w_15 b_16 x_17 l_18 B_19=> ?_
 have:=x_17.size
 have z_15:=eT z_8 x_17
 have q_21:=B_19.lt
 refine va rfl<|nK<|sg<| ?_
 have B_12:=B_12.later x_17
 refine vL (ld rfl (B_12.all eF3 eF4))<|vL (ld rfl (B_19.all eF3 eF4))<|ca eF50 rfl rfl ((cells_in a b _ (by omega) (by omega)).mono ?_)
 rintro e w_25 ⟨A_22,c_22,rfl,OL_22,x_26⟩
 refine ⟨_,rfl, ?_⟩
 have:=x_26.size
 have z_25:=eT z_15 x_26
 have u_23:=λ q hq=>(OL_22.lt q hq).2
 have lo_24:=λ q hq=>(OL_22.lt q hq).1
 have hl_22:=lineC_bd (a:=a) (b:=b) (by omega) (by omega)
 refine vm rfl<|vL (ex rfl rfl)<|vL (ex rfl rfl)<|va rfl<|va rfl<|nK<|sq<|sg<|vm rfl<|vL (ln Tryz.underlying25 rfl)<|vL (blt rfl rfl)<|nK<| ?_
 refine clt rfl (λ h_28=> ?_) (λ h_28=> ?_)
 ·refine sg<|va rfl<|nK<|rt<|tT<|tR (.tmp rfl .nil)<| ?_
  exact ⟨by rw [bareC_few (by omega)];rfl,z_25⟩
 ·refine sK<|sq<|sg<|vm rfl<|vm rfl<|vL (ln Tryz.underlying25 rfl)<|vL (bsu rfl rfl (inI (by omega)))<|vL (sI 1 ((lineC a b).length - 1) Tryz.underlying25 eF4 rfl rfl rfl rfl (by omega) (by omega) (by have:=OL_22.has.1;omega))<|vL (ln Tryz.underlying25 rfl)<|vm rfl<|nK<|bk<| ?_
  have B_5:=B_5.later (eT x_10 (eT x_17 x_26))
  refine lp (λ mI EI wI=>∃ k:Nat,EI= [(3, .pointer (some ⟨b_2,0,none⟩)),(26, .slice (sA A_22 c_22 1 2) ((lineC a b).length - 1 - 1) (c_22 - 1)),(27, .int .i64 ((((lineC a b).length - 1 - 1:Nat):Int))),(28, .int .i64 (k:Int))]∧mI=(lineC a b).length - 1 - 1 - k∧Ext w wI∧Blk wI b_2 [.int .i64 f.wide, .int .i64 f.high, .slice A f.places.length c] 24 (0,0)∧Cel.rep.SOwn 49 16 wI w_15.heap.size (Rep.blkOf A_22) A_22 c_22 (lineC a b)∧(k≤(lineC a b).length - 1 - 1)∧(∀ i,i<k→f.clear ((((lineC a b).drop 1).take ((lineC a b).length - 1 - 1)).getD i default)=true)) _ _ ⟨0,rfl,rfl,z_25,B_5,OL_22,by omega,λ i hi=>by omega⟩ (.cons rfl (.cons rfl (.cons rfl (.cons (loI rfl (by first | omega | rfl | (simp<;>omega))) .nil)))) ?_
  rintro m_30 E_31 w_29 ⟨k,rfl,rfl,z_29,B_5,OL_22,hk,hg⟩
  have:=z_29.size
  have q_33:=B_5.lt
  have u_34:=λ q hq=>(OL_22.lt q hq).2
  refine sg<|vL (blt rfl rfl)<|nK<|sq<| ?_
  refine clt rfl (λ h_35=> ?_) (λ h_35=> ?_)
  ·refine sK<|sq<|bk<|sg<|vL (iA k Tryz.underlying25 eF4 rfl rfl ((OL_22.has.sub 1 ((lineC a b).length - 1) (by omega) (by omega)).adr (zl k (by rw [List.length_take,List.length_drop];omega))) rfl (by omega))<|vL (ld rfl (Rep.SHas.elt hcC ((OL_22.has.sub 1 ((lineC a b).length - 1) (by omega) (by omega)).adh (zl k (by rw [List.length_take,List.length_drop];omega))) (get_d (l:=((lineC a b).drop 1).take ((lineC a b).length - 1 - 1)) (u:=default) (by rw [List.length_take,List.length_drop];omega)) eF3 eF4))<|al rfl eF41 rfl rfl λ w_36 b_37 x_38 l_39 B_40=> ?_
   have:=x_38.size
   have z_36:=eT z_29 x_38
   have q_42:=B_40.lt
   refine st (new:= [.int .i64 (((((lineC a b).drop 1).take ((lineC a b).length - 1 - 1)).getD k default).x), .int .i64 (((((lineC a b).drop 1).take ((lineC a b).length - 1 - 1)).getD k default).y)]) rfl rfl B_40 rfl eF4 rfl rfl rfl λ w_43 m_44 B_40=> ?_
   have:=m_44.size
   have z_43:=Ext.mod z_36 m_44 (ge1 (by omega))
   have:=m_44.size
   refine nK<|sg<| ?_
   have B_5:=B_5.later x_38
   have B_5:=B_5.mod m_44 (nm1 (by omega))
   refine vL (ld rfl (B_5.all eF23 eF24))<|vL (ld rfl (B_40.all eF3 eF4))<|ca eF25 rfl rfl ((fldAt2 f (((((lineC a b).drop 1).take ((lineC a b).length - 1 - 1)).getD k default)) _ _ _ (hP.keep z_43)).mono ?_)
   rintro e w_47 ⟨rfl,x_48⟩
   refine ⟨_,rfl, ?_⟩
   have:=x_48.size
   have z_47:=eT z_43 x_48
   refine vm rfl<|vL (ex rfl rfl)<|vL (ex rfl rfl)<|va rfl<|va rfl<|nK<|sg<|vm rfl<|vL (beq rfl rfl)<|vm rfl<|vQ rfl rfl rfl rfl (λ hc=>mv rfl) rfl<|vQ rfl rfl rfl rfl (λ hc=>beq (gt hc rfl) rfl) rfl<|vL (pO rfl rfl rfl rfl)<|nK<| ?_
   refine cb rfl (λ h_50=> ?_) (λ h_50=> ?_)
   ·refine sg<|va rfl<|nK<|rt<|tB<|tT<|tK<|tB<|tT<|tR (.tmp rfl .nil)<| ?_
    exact ⟨by rw [bareC_no (k:=k) (by rw [List.length_take,List.length_drop];omega) (by unfold Fld.clear;rw [h_50];rfl)];rfl,z_47⟩
   ·refine sk<|nB<|nT<|rg<|vL (bad rfl rfl (inI (by omega)))<|vm rfl<|nl<| ?_
    have B_5:=B_5.later x_48
    have OL_22:=OL_22.later x_38
    have OL_22:=OL_22.mod m_44 (fk1 u_34 (by omega))
    have OL_22:=OL_22.later x_48
    exact nI _ _ ⟨k+1,rfl,rfl,z_47,B_5,OL_22,by omega,lt_succ_all hg (by unfold Fld.clear;rw [h_50];rfl)⟩ (by omega) (.cons rfl (.cons rfl (.cons rfl (.cons (loI rfl (by first | omega | rfl | (simp<;>omega))) .nil))))
  ·refine xt<|xT<|xK<|xB<|nT<|sg<|va rfl<|nK<|rt<|tR (.tmp rfl .nil)<| ?_
   exact ⟨by rw [bareC_yes λ i hi=>hg i (by rw [List.length_take,List.length_drop] at hi;omega)];rfl,z_29⟩
theorem sees_any (f:Fld) (a b:Cel) (A:Option Addr) (c:Nat) (w:World) (hP:repI.SHas 8 w A c f.places):
  Calls Tryz.prog 162 #[.agg #[.int .i64 f.wide, .int .i64 f.high, .slice A f.places.length c], .agg #[.int .i64 a.x, .int .i64 a.y], .agg #[.int .i64 b.x, .int .i64 b.y]] w (λ e w'=>e= .returned (seesR f a b)∧Ext w w'):=by
 refine calls_W (n:=38) Tryz.func162 rfl rfl rfl ?_
 refine sg<|bx rfl rfl rfl rfl λ w_1 b_2 x_3 l_4 B_5=> ?_
 have:=x_3.size
 have z_1:=eT (Ext.rf w) x_3
 have q_7:=B_5.lt
 refine bx rfl rfl rfl rfl λ w_8 b_9 x_10 l_11 B_12=> ?_
 have:=x_10.size
 have z_8:=eT z_1 x_10
 have q_14:=B_12.lt
 refine bx rfl rfl rfl rfl λ w_15 b_16 x_17 l_18 B_19=> ?_
 have:=x_17.size
 have z_15:=eT z_8 x_17
 have q_21:=B_19.lt
 refine va rfl<|va rfl<|nK<|sq<|sg<| ?_
 have B_12:=B_12.later x_17
 refine vL (ld rfl (B_12.all eF3 eF4))<|vL (ld rfl (B_19.all eF3 eF4))<|vL (v:= .agg #[.int .i64 a.x, .int .i64 a.y, .int .i64 b.x, .int .i64 b.y]) (bd rfl (by kernel_rfl))<|vm rfl<|nK<|bk<|lu 3<|lr<|sg<|vL (blt rfl rfl)<|nK<|sq<|cT rfl<|sK<|sq<|bk<|sg<|vL (v:= .agg #[.int .i64 a.x, .int .i64 a.y]) (ixk rfl rfl (by kernel_rfl))<|al rfl eF41 rfl rfl λ w_22 b_23 x_24 l_25 B_26=> ?_
 have:=x_24.size
 have z_22:=eT z_15 x_24
 have q_28:=B_26.lt
 refine st (new:= [.int .i64 a.x, .int .i64 a.y]) rfl rfl B_26 rfl eF4 rfl rfl rfl λ w_29 m_30 B_26=> ?_
 have:=m_30.size
 have z_29:=Ext.mod z_22 m_30 (ge1 (by omega))
 have:=m_30.size
 refine nK<|sg<| ?_
 have B_5:=B_5.later (eT x_10 (eT x_17 x_24))
 have B_5:=B_5.mod m_30 (nm1 (by omega))
 refine vL (ld rfl (B_5.all eF23 eF24))<|vL (ld rfl (B_26.all eF3 eF4))<|ca eF25 rfl rfl ((fldAt2 f a _ _ _ (hP.keep z_29)).mono ?_)
 rintro e w_33 ⟨rfl,x_34⟩
 refine ⟨_,rfl, ?_⟩
 have:=x_34.size
 have z_33:=eT z_29 x_34
 refine vm rfl<|vL (ex rfl rfl)<|vL (ex rfl rfl)<|va rfl<|va rfl<|nK<|sg<|vm rfl<|vL (bne rfl rfl)<|nK<| ?_
 refine cne rfl (λ h_36=> ?_) (λ h_36=> ?_)
 ·refine sg<|vm rfl<|va rfl<|va rfl<|nK<|rt<|tB<|tT<|tK<|tB<|tT<|tR (.tmp rfl (.tmp rfl .nil))<| ?_
  exact ⟨by rw [sees_no1 h_36];rfl,z_33⟩
 ·have hn36:=atE_near h_36
  refine sk<|nB<|nT<|rg<|vL (badL (r:=1) rfl rfl (by decide) (by decide))<|vm rfl<|nl<|nR<|lr<|sg<|vL (blt rfl rfl)<|nK<|sq<|cT rfl<|sK<|sq<|bk<|sg<|vL (v:= .agg #[.int .i64 b.x, .int .i64 b.y]) (ixk rfl rfl (by kernel_rfl))<|al rfl eF41 rfl rfl λ w_37 b_38 x_39 l_40 B_41=> ?_
  have:=x_39.size
  have z_37:=eT z_33 x_39
  have q_43:=B_41.lt
  refine st (new:= [.int .i64 b.x, .int .i64 b.y]) rfl rfl B_41 rfl eF4 rfl rfl rfl λ w_44 m_45 B_41=> ?_
  have:=m_45.size
  have z_44:=Ext.mod z_37 m_45 (ge1 (by omega))
  have:=m_45.size
  refine nK<|sg<| ?_
  have B_5:=B_5.later (eT x_34 x_39)
  have B_5:=B_5.mod m_45 (nm1 (by omega))
  refine vL (ld rfl (B_5.all eF23 eF24))<|vL (ld rfl (B_41.all eF3 eF4))<|ca eF25 rfl rfl ((fldAt2 f b _ _ _ (hP.keep z_44)).mono ?_)
  rintro e w_48 ⟨rfl,x_49⟩
  refine ⟨_,rfl, ?_⟩
  have:=x_49.size
  have z_48:=eT z_44 x_49
  refine vm rfl<|vL (ex rfl rfl)<|vL (ex rfl rfl)<|va rfl<|va rfl<|nK<|sg<|vm rfl<|vL (bne rfl rfl)<|nK<| ?_
  refine cne rfl (λ h_51=> ?_) (λ h_51=> ?_)
  ·refine sg<|vm rfl<|va rfl<|va rfl<|nK<|rt<|tB<|tT<|tK<|tB<|tT<|tR (.tmp rfl (.tmp rfl .nil))<| ?_
   exact ⟨by rw [sees_no2 ‹_› h_51];rfl,z_48⟩
  ·have hn51:=atE_near h_51
   refine sk<|nB<|nT<|rg<|vL (badL (r:=2) rfl rfl (by decide) (by decide))<|vm rfl<|nl<|nR<|lr<|sg<|vL (blt rfl rfl)<|nK<|sq<|cF rfl<|xt<|xT<|xK<|xB<|nT<|sg<| ?_
   have B_5:=B_5.later x_49
   refine vL (ld rfl (B_5.all eF23 eF24))<| ?_
   have B_12:=B_12.later x_24
   have B_12:=B_12.mod m_30 (nm1 (by omega))
   have B_12:=B_12.later (eT x_34 x_39)
   have B_12:=B_12.mod m_45 (nm1 (by omega))
   have B_12:=B_12.later x_49
   refine vL (ld rfl (B_12.all eF3 eF4))<| ?_
   have B_19:=B_19.later x_24
   have B_19:=B_19.mod m_30 (nm1 (by omega))
   have B_19:=B_19.later (eT x_34 x_39)
   have B_19:=B_19.mod m_45 (nm1 (by omega))
   have B_19:=B_19.later x_49
   refine vL (ld rfl (B_19.all eF3 eF4))<|ca eF51 rfl rfl ((bare_in f a b _ _ _ (hP.keep z_48) (by omega) (by omega)).mono ?_)
   rintro e w_52 ⟨rfl,x_53⟩
   refine ⟨_,rfl, ?_⟩
   have:=x_53.size
   have z_52:=eT z_48 x_53
   refine vm rfl<| ?_
   have B_5:=B_5.later x_53
   refine vQ rfl rfl rfl rfl (λ hc=>ld rfl (B_5.all eF23 eF24)) rfl<| ?_
   have B_19:=B_19.later x_53
   refine vQ rfl rfl rfl rfl (λ hc=>ld rfl (B_19.all eF3 eF4)) rfl<| ?_
   have B_12:=B_12.later x_53
   refine vQ rfl rfl rfl rfl (λ hc=>ld rfl (B_12.all eF3 eF4)) rfl<|vC rfl rfl rfl rfl eF51 (λ hc=>ec (gt hc rfl) (ec (gt hc rfl) (ec (gt hc rfl) rfl))) (λ hc=>bare_in f b a _ _ _ (hP.keep z_52) (by omega) (by omega)) rfl λ w_55 x_56=> ?_
   have:=x_56.size
   have z_55:=eT z_52 x_56
   refine vL (pO rfl rfl rfl rfl)<|va rfl<|va rfl<|nK<|rt<|tR (.tmp rfl (.tmp rfl .nil))<| ?_
   exact ⟨by rw [sees_ok ‹_› ‹_›];rfl,z_55⟩
end
section
open Go.RowKit
structure Blw where
 who:Int
 whom:Int
 deriving DecidableEq,Inhabited
namespace Blw
def cells (a:Blw):List Value:= [.int .i64 (a.who), .int .i64 (a.whom)]
def ok (a:Blw):Prop:=(Lit.int .i64 a.who).wf=true∧(Lit.int .i64 a.whom).wf=true
def raw (j:Nat) (u:Value):Prop:=match j with
 | 0=>∃ n:Int,u= .int .i64 n
 | 1=>∃ n:Int,u= .int .i64 n
 | _=>True
theorem cells_raw (a:Blw):∀ (j:Nat) u,a.cells[j]? =some u→raw j u:=by
 intro j u hu
 match j,hu with
 | 0,hu=>exact ⟨_,(Option.some.inj hu).symm⟩
 | 1,hu=>exact ⟨_,(Option.some.inj hu).symm⟩
 | j+2,hu=>exact trivial
theorem cells_one (a:Blw):∀ u∈a.cells,u.oneCell'=true:=by
 intro u hu
 unfold cells at hu
 simp only [List.mem_cons,List.not_mem_nil,or_false] at hu
 rcases hu with rfl | rfl<;>rfl
def rep:Rep Blw:=Rep.flat 2 cells ok raw (fun _=>rfl) cells_one cells_raw
def zero:Value:= .agg #[.int .i64 0, .int .i64 0]
theorem zero_raw:∀ (j:Nat) u,zero.cells[j]? =some u→rep.raw j u:=by
 intro j u hu
 have hu:(#[(.int .i64 0:Value),(.int .i64 0:Value)]:Array Value)[j]? =some u:=hu
 match j,hu with
 | 0,hu=>exact ⟨_,(Option.some.inj hu).symm⟩
 | 1,hu=>exact ⟨_,(Option.some.inj hu).symm⟩
 | j+2,hu=>cases hu
theorem info:(Tryz.prog.info? 223).map (fun i=>(i.zero,i.size,i.bytes))=some (some zero,2,16):=by kernel_rfl
def sh:Sh:=(.cons (.int .i64) (.cons (.int .i64) .nil))
end Blw
theorem hcW {w:World} {cs:List Value} {a:Blw} (h:Blw.rep.has w cs a):cs=a.cells:=And.left (show cs=a.cells∧a.ok from h)
end
end Go.Proofs.YtlikikpgmmkjbaaGreat
