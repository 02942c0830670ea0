import Derived.Test.YtlikikpgmmkjbaaGreatHnf
set_option linter.unusedVariables false
set_option linter.unusedSimpArgs false
set_option maxRecDepth 100000
set_option maxHeartbeats 4000000
open Go.RowKit
namespace Go.Proofs.YtlikikpgmmkjbaaGreat
open Tryz
abbrev aZa:=@Int.toNat_of_nonneg
section
open Go.Proofs.YtlikikpgmmkjbaaGreat.fj
theorem asA {x wL:cN} {c:mH} {e:Int} {s:ByteArray} (h:O9 x c e s wL):s.size≤140737488351232:=by
 have aI:(ByteArray.empty).size≤140737488351232:=by decide
 rcases h with ⟨_,_,_,rfl⟩ | ⟨_,_,_,rfl⟩
 ·unfold Ld;split
  ·exact ane _
  ·exact aI
 ·exact aI
def alQ:cN:=DY kZ 5
def aRt:mH:=⟨1,⟨0,3,1,⟨2,0⟩,0⟩,0,0⟩
def NT:cN:= {alQ with S:= [⟨nV,0,false⟩]}
theorem alT:vD kZ []:=⟨by decide,by decide +kernel,rfl⟩
theorem alR:ER alQ:=⟨alT,⟨by decide,by decide,λ i s h=>by
 match i,h with
 | 0,h=>obtain rfl:=aUh h;exact ⟨by decide,by decide⟩⟩,⟨Z,by decide +kernel⟩,by decide,by decide,by decide,λ i s h=>by
 match i,h with
 | 0,h=>obtain rfl:=aUh h;rfl⟩
theorem aEg:ER NT:=⟨alT,⟨by decide,by decide,λ i s h=>by
 match i,h with
 | 0,h=>obtain rfl:=aUh h;exact ⟨by decide,by decide +kernel⟩⟩,⟨Z,by decide +kernel⟩,by decide,by decide,by decide,λ i s h=>by
 match i,h with
 | 0,h=>obtain rfl:=aUh h;rfl⟩
theorem ZP:vL NT.hi.toNat NT.S=([⟨[],0,false⟩],nV):=by decide +kernel
theorem aEh:KR NT:=by
 unfold KR;rw [ZP];exact ⟨by decide,Z4.1⟩
theorem aAF {a8 bl cZ jP:Int} {eH e3 iv:cN} {s2 Gy:ByteArray} {V:aj} {k:Nat} (γ:acm kZ 5 a8 eH) (aa:O9 eH ⟨1,⟨0,3,1,⟨2,0⟩,0⟩,0,0⟩ bl s2 e3) (av:O9 e3 ⟨2,⟨0,0,0,⟨0,0⟩,0⟩,0,0⟩ cZ Gy iv) (aV:Uf kZ [Gy] jP V k):
  a8=0∧bl=0∧cZ=0∧jP=0∧k=1∧iv.L.length=1∧V=Z0:=by
 obtain ⟨cy,_,rfl⟩:=γ.resolve_right λ h=>h.2.1 ⟨by decide +kernel,by decide,by decide⟩;obtain ⟨a2,_,a3,_⟩:=aa.resolve_right λ h=>h.2.1 ⟨alR, .inl ⟨rfl,alR.2.1,by decide +kernel,⟨[],0,false⟩,rfl,rfl,by decide⟩⟩;have a4:e3=NT:=by rw [a3,aeZ rfl];rfl
 subst a4;obtain ⟨a5,_,Hv,PD⟩:=av.resolve_right λ h=>h.2.1 ⟨aEg, .inr (.inl ⟨rfl,aEh⟩)⟩;rw [ae0 rfl] at Hv;rw [ae1 rfl,ZP] at PD;obtain ⟨PE,_,a9⟩:=aV.resolve_right λ h=>h.2.1 ⟨by simp,by decide +kernel⟩;have mj:∀ m∈ [nV],iu m=0∧∀ o∈m,o.ok:=λ m hm=>by
  rw [aUg.1 hm];exact ⟨by decide +kernel,λ o b5=>by rw [aUg.1 b5];exact ⟨bN.2 (by decide),bN.2 (by decide),bN.2 (by decide),bN.2 (by decide),bN.2 (by decide),bN.2 (by decide)⟩⟩
 rw [PD] at a9;obtain ⟨hX,dW⟩:=avc (L:= [nV]) a9 mj (by rw [ZB];exact Z4.1);exact ⟨cy,a2,a5,PE,hX,by rw [Hv];unfold NS;rw [ZP];rfl,by rw [dW];exact Z4.2.1⟩
theorem ayo  (w:World):
  Calls prog 34 #[] w (λ e w'=>e= .returned (.bool true)∧Ext w w'):=by
 refine cl (n:=78) func34 Z Z Z ?_;refine ai<|va Z<|ag<|ai<|ca afs Z Z ((alS _).mono ?_);rintro e aal ⟨apN,rfl,Un,k2⟩;refine ⟨_,Z, ?_⟩;have:=k2.size;have G3:=τ (Ext.bK w) k2;have Z8:=λ q I=>(Un.lt q I).2;have R3:=λ q I=>(Un.lt q I).1;refine ca aua Z Z ((ayf apN kZ 5 _ Un.has).mono ?_);rintro e eM ⟨aIx,ef,q8,rfl,ayD,ET,cL⟩;refine ⟨_,Z, ?_⟩;have:=cL.size;have bR:=τ G3 cL;have aE3:=λ q I=>(ET.lt q I).2;have aNn:=λ q I=>(ET.lt q I).1;refine vm Z<|J (ex Z Z)<|J (ex Z Z)<|al Z HU Z Z λ wI yZ dC Nb gj=> ?_;have:=dC.size;have kB:=τ bR dC;have NJ:=gj.lt;refine st Z Z gj Z fR Z Z Z λ u6 sg gj=> ?_;have:=sg.size;have jr:=Ext.mod kB sg bx;refine va Z<|ag<|ai<|J (ak Z (gj.all j6 fR))<|J (v:= .agg #[.int .i64 2, .int .i64 0]) (cM Z (by kernel_rfl))<|J (v:= .agg #[.int .i64 0, .int .i64 3, .int .i64 1, .int .i64 2, .int .i64 0, .int .i64 0]) (cM Z (by kernel_rfl))<|J (v:= .agg #[.int .i64 1, .int .i64 0, .int .i64 3, .int .i64 1, .int .i64 2, .int .i64 0, .int .i64 0, .int .i64 0, .int .i64 0]) (cM Z (by kernel_rfl))<| ?_;have ET:=ET.later dC;have ET:=ET.mod sg (b' aE3);refine ca VV Z Z ((Xq ef q8 (⟨1,⟨0,3,1,⟨2,0⟩,0⟩,0,0⟩:mH) _ ET.has ⟨bN.2 (by decide),bN.2 (by decide),bN.2 (by decide),bN.2 (by decide),bN.2 (by decide),bN.2 (by decide)⟩).mono ?_);rintro e BR ⟨aIt,aRq,fT,aGM,rfl,ayB,dh,ep⟩;refine ⟨_,Z, ?_⟩;have:=ep.size;have lR:=τ jr ep;have u3:=λ q I=>(dh.lt q I).2;have xY:=λ q I=>(dh.lt q I).1;refine vm Z<|J (ex Z Z)<|J (ex Z Z)<|J (ex Z Z)<| ?_;have gj:=gj.later ep;refine st Z Z gj Z fR Z Z Z λ BS h_ gj=> ?_;have:=h_.size;have qp:=Ext.mod lR h_ bx;refine va Z<|va Z<|ag<|ai<|J (ak Z (gj.all j6 fR))<|J (v:= .agg #[.int .i64 2, .int .i64 0, .int .i64 0, .int .i64 0, .int .i64 0, .int .i64 0, .int .i64 0, .int .i64 0, .int .i64 0]) (cM Z (by kernel_rfl))<| ?_;have dh:=dh.mod h_ (λ q I h=>by have Φ:=aUg.1 h;exfalso;(have:=xY q I;omega));refine ca VV Z Z ((Xq fT aGM (⟨2,⟨0,0,0,⟨0,0⟩,0⟩,0,0⟩:mH) _ dh.has ⟨bN.2 (by decide),bN.2 (by decide),bN.2 (by decide),bN.2 (by decide),bN.2 (by decide),bN.2 (by decide)⟩).mono ?_);rintro e u9 ⟨T',SF,avS,aUb,rfl,ah5,Up,dp⟩;refine ⟨_,Z, ?_⟩;have:=dp.size;have js:=τ qp dp;have aRI:=λ q I=>(Up.lt q I).2;have aNm:=λ q I=>(Up.lt q I).1;refine vm Z<|J (ex Z Z)<|J (ex Z Z)<|J (ex Z Z)<| ?_;have gj:=gj.later dp;refine st Z Z gj Z fR Z Z Z λ GK kc gj=> ?_;have:=kc.size;have rf:=Ext.mod js kc bx;refine va Z<|va Z<|ag<|ai<|ca afs Z Z ((alS _).mono ?_);rintro e Tj ⟨apO,rfl,Kz,B8⟩;refine ⟨_,Z, ?_⟩;have:=B8.size;have Ca:=τ rf B8;have aFp:=λ q I=>(Kz.lt q I).2;have YB:=λ q I=>(Kz.lt q I).1;refine vm Z<|c6 (e:= 9) (cs:= [.string SF]) Z (λ _=>by kernel_rfl) Z λ Tk aJ4 oG aN9 abI=> ?_;have:=oG.size;have ri:=τ Ca oG;have aQ3:=abI.lt;have Kz:=Kz.later oG;refine ca aub Z Z ((axj apO kZ _ _ ([SF]) 1 _ (by simp) Kz.has (aN.LX (R:=Gv) (by_:=16) (k:= [SF]) abI [[.string SF]] Z (⟨⟨Z,(asA ah5)⟩,trivial⟩) (by simp) (by simp))).mono ?_);rintro e amW ⟨abV,aM3,a51,apM,rfl,RB,Ct,wU⟩;refine ⟨_,Z, ?_⟩;have:=wU.size;have OI:=τ ri wU;have amz:=λ q I=>(Ct.lt q I).2;have YC:=λ q I=>(Ct.lt q I).1;refine vm Z<|J (ex Z Z)<|J (ex Z Z)<|J (ex Z Z)<|al Z pR Z Z λ q7 aJ8 lq aOg Kh=> ?_;have:=lq.size;have ih:=τ OI lq;have alb:=Kh.lt;refine st Z Z Kh Z cf Z Z Z λ Tp nM Kh=> ?_;have:=nM.size;have sF:=Ext.mod ih nM bx;refine va Z<|va Z<|ag<|ai<|vm Z<|J (beq Z Z)<|vm Z<|br Z Z Z Z (λ hc=>aM Z) Z<|br Z Z Z Z (λ hc=>beq (gt hc Z) Z) Z<|J (e9 Z Z Z Z)<|vm Z<|br Z Z Z Z (λ hc=>aM Z) Z<|br Z Z Z Z (λ hc=>beq (gt hc Z) Z) Z<|J (e9 Z Z Z Z)<|vm Z<|br Z Z Z Z (λ hc=>aM Z) Z<|br Z Z Z Z (λ hc=>beq (gt hc Z) Z) Z<|J (e9 Z Z Z Z)<|vm Z<|br Z Z Z Z (λ hc=>aM Z) Z<|br Z Z Z Z (λ hc=>beq (gt hc Z) Z) Z<|J (e9 Z Z Z Z)<| ?_;refine vm Z<|br Z Z Z Z (λ hc=>au rQ Z) Z<|br Z Z Z Z (λ hc=>au rN (gt hc Z)) Z<| ?_;have gj:=gj.later (τ B8 (τ oG (τ wU lq)));have gj:=gj.mod nM aQ;refine br Z Z Z Z (λ hc=>ak (gt hc Z) (gj.one qE Z)) Z<|br Z Z Z Z (λ hc=>cj underlying29 (gt hc Z)) Z<|br Z Z Z Z (λ hc=>beq (gt hc Z) Z) Z<|J (e9 Z Z Z Z)<|vm Z<|br Z Z Z Z (λ hc=>au iO Z) Z<|br Z Z Z Z (λ hc=>ak (gt hc Z) (Kh.one j7 Z)) Z<|br Z Z Z Z (λ hc=>cj underlying26 (gt hc Z)) Z<|br Z Z Z Z (λ hc=>beq (gt hc Z) Z) Z<|J (e9 Z Z Z Z)<|vm Z<|br Z Z Z Z (λ hc=>au iO Z) Z<|br Z Z Z Z (λ hc=>ak (gt hc Z) (Kh.one j7 Z)) Z<| ?_;have Ct:=Ct.later lq;have Ct:=Ct.mod nM (b' amz);refine br Z Z Z Z (λ hc=>bY 0 underlying26 jd (gt hc Z) Z (Ct.T.has.bu (aX 0 (by have:=hc;simp only [aUp,aVh,aX3] at this;omega))) Z (by have:=hc;simp only [aUp,aVh,aX3] at this;omega)) Z<|br Z Z Z Z (λ hc=>au AW (gt hc Z)) Z<|br Z Z Z Z (λ hc=>ak (gt hc Z) (κ.aK.j9 jH (Ct.T.has.cr (aX 0 (by have:=hc;simp only [aUp,aVh,aX3] at this;omega))) 6 (dH (l:=apM.ao) (u:=default) (j:=0) (by have:=hc;simp only [aUp,aVh,aX3] at this;omega)) Z bf)) Z<|br Z Z Z Z (λ hc=>beq (gt hc Z) Z) Z<|J (e9 Z Z Z Z)<|va Z<|ag<|rt<|bb (.tmp Z .nil)<| ?_;obtain ⟨f1,f2,f3,f4,f5,f6,f7⟩:=aAF ayD ayB ah5 RB;have f8:avS.T.length=1:=by have:=Up.L.1;omega
 exact ⟨alo (by rw [f7];simp [f1,f2,f3,f4,f5,f8];decide),sF⟩
end
section
theorem aEp (a:aj.cq) (W:aj) (ax:Nat) (w:World) (bQ:bj w ax a W):
  Calls prog 29 #[.agg ((aj.cells a W).toArray)] w (λ e w'=>e= .returned (.tuple #[])∧Mod (bj.bV a) w w'):=by
 have zg:=bQ.aCn;have ht:Raw ax 1 0 w a.P a.p:=Raw.of (R:=bS) bQ.P rfl (λ u h=>h);have aE7:=λ q I=>(ht.lt q I).2;have fz:Raw ax 1 0 w a.S a.s:=Raw.of (R:=bS) bQ.S rfl (λ u h=>h);have JB:=λ q I=>(fz.lt q I).2;have ad9:∀ q∈κ.ae a.S,q∈κ.ae a.P→False:=λ q γ aa=>zg.rB q aa γ;have eS:Raw ax 1 0 w a.M a.m:=Raw.of (R:=bS) bQ.M rfl (λ u h=>h);have aE5:=λ q I=>(eS.lt q I).2;have ad7:∀ q∈κ.ae a.M,q∈κ.ae a.P→False:=λ q γ aa=>zg.apf q aa γ;have ad8:∀ q∈κ.ae a.M,q∈κ.ae a.S→False:=λ q γ aa=>zg.apt q aa γ;have gK:Raw ax 2 0 w a.B a.b:=Raw.of (R:=ay.rep) bQ.B rfl (λ u h=>h);have Jy:=λ q I=>(gK.lt q I).2;have ad5:∀ q∈κ.ae a.B,q∈κ.ae a.P→False:=λ q γ aa=>zg.ape q aa γ;have ad6:∀ q∈κ.ae a.B,q∈κ.ae a.S→False:=λ q γ aa=>zg.aps q aa γ;have ad4:∀ q∈κ.ae a.B,q∈κ.ae a.M→False:=λ q γ aa=>zg.aoY q aa γ;have g_:Raw ax 7 5 w a.T a.t:=Raw.of (R:=bd.rep) bQ.T rfl (λ u h=>h);have ll:=λ q I=>(g_.lt q I).2;have aec:∀ q∈κ.ae a.T,q∈κ.ae a.P→False:=λ q γ aa=>zg.hJ q aa γ;have aed:∀ q∈κ.ae a.T,q∈κ.ae a.S→False:=λ q γ aa=>zg.ST q aa γ;have aeb:∀ q∈κ.ae a.T,q∈κ.ae a.M→False:=λ q γ aa=>zg.Uw q aa γ;have aea:∀ q∈κ.ae a.T,q∈κ.ae a.B→False:=λ q γ aa=>zg.an1 q aa γ;refine cl (n:=83) func29 Z Z Z ?_;refine ai<|cI Z Z Z Z λ cW bw a7 eA ab=> ?_;have:=a7.size;have bk:=(Mod.bK (bj.bV a) w).trans (Mod.bF a7);have eG:=ab.lt;refine ag<|az<|ai<|J (au rS Z)<|J (au y7 Z)<|J (ak Z (ab.one gy Z))<|J (au vT Z)<|J (ak Z (ab.one gy Z))<|J (au AZ Z)<|J (ak Z (ab.one gy Z))<|J (v:= .agg #[.slice a.P W.field.aY.length a.p, .slice a.S W.bg.length a.s, .slice a.M W.bs.length a.m]) (cM Z (by kernel_rfl))<|vm Z<|ag<|bA<| ?_;have auK:∀ q∈κ.ae a.P,q=bw→False:=λ q I e=>by have:=aE7 q I;omega
 have auL:∀ q∈κ.ae a.S,q=bw→False:=λ q I e=>by have:=JB q I;omega
 have auJ:∀ q∈κ.ae a.M,q=bw→False:=λ q I e=>by have:=aE5 q I;omega
 have auI:∀ q∈κ.ae a.B,q=bw→False:=λ q I e=>by have:=Jy q I;omega
 have auM:∀ q∈κ.ae a.T,q=bw→False:=λ q I e=>by have:=ll q I;omega
 refine F' 4<|kp<|ai<|J (blt Z Z)<|ag<|az<|fe Z<|bt<|az<|bA<|ai<|J (v:= .slice a.P W.field.aY.length a.p) (zn Z Z (by kernel_rfl))<|va Z<|ag<|ai<|vm Z<|vm Z<|J (Ff underlying22 Z)<| ?_;refine J (bc underlying22 cU Z Z)<|va Z<|ag<|ai<|vm Z<|J (cj underlying22 Z)<|vm Z<|ag<|bA<| ?_;have ht:=ht.later a7;have fz:=fz.later a7;have eS:=eS.later a7;have gK:=gK.later a7;have g_:=g_.later a7;refine dX (λ b4 b2 aG=>∃ k:Nat,b2= [(1, .pointer (some ⟨bw,0,none⟩)),(3, .slice a.P a.p a.p),(14, .agg #[.slice a.P W.field.aY.length a.p, .slice a.S W.bg.length a.s, .slice a.M W.bs.length a.m]),(15, .int .i64 0),(16, .bool true),(17, .slice a.P W.field.aY.length a.p),(18, .slice a.P W.field.aY.length a.p),(19, .slice a.P W.field.aY.length a.p),(20, .int .i64 (a.p:Int)),(21, .slice a.P a.p a.p),(22, .slice a.P a.p a.p),(23, .int .i64 (a.p:Int)),(24, .int .i64 (k:Int))]∧b4=a.p - k∧Mod (bj.bV a) w aG∧Raw ax 1 0 aG a.P a.p∧Raw ax 1 0 aG a.S a.s∧Raw ax 1 0 aG a.M a.m∧Raw ax 2 0 aG a.B a.b∧Raw ax 7 5 aG a.T a.t∧aN aG bw (aj.cells a W) 28 (0,0)∧(k≤a.p)) _ _ ⟨0,Z,Z,bk,ht,fz,eS,gK,g_,ab,by omega⟩ (.cons Z (.cons Z (.cons Z (.cons Z (.cons Z (.cons Z (.cons Z (.cons Z (.cons Z (.cons Z (.cons Z (.cons Z (.cons (bO Z) .nil))))))))))))) ?_;rintro DW aIz eM ⟨k,rfl,rfl,bR,ht,fz,eS,gK,g_,ab,aw⟩;have:=bR.size;have D_:=λ q I=>(ht.lt q I).2;have BL:=λ q I=>(fz.lt q I).2;have aR3:=λ q I=>(eS.lt q I).2;have aR5:=λ q I=>(gK.lt q I).2;have mz:=λ q I=>(g_.lt q I).2;have NJ:=ab.lt;have L1:(a.p:Int)≤9223372036854775807:=by have:=bQ.xv;omega
 refine ai<|J (blt Z Z)<|ag<|az<| ?_;refine dw Z (λ ld=> ?_) (λ ld=> ?_)
 ·refine bt<|az<|bA<|ai<|vm Z<|va Z<|ag<|rg<|vm Z<|vm Z<|J (bY k underlying22 cU Z Z (ht.bu (aX k)) Z (by omega))<| ?_;obtain ⟨aSP,ayZ⟩:=ht.get (i:=k) (by omega);refine J (ak Z (iI.one bf ayZ))<|J (CR Z Z)<|J (bY k underlying22 cU Z Z (ht.bu (aX k)) Z (by omega))<|NW (i:=k) ht (by omega) Z Z cU λ z6 lg ht=> ?_;have:=lg.size;have lu:=bR.md lg (λ q I=> .inl (QN I));refine nl<|bX<|aT<|rg<|J (bad Z Z (bH (by omega)))<|vm Z<|nl<| ?_;have fz:=fz.mod lg (λ q I h=>ad9 q I h);have eS:=eS.mod lg (λ q I h=>ad7 q I h);have gK:=gK.mod lg (λ q I h=>ad5 q I h);have g_:=g_.mod lg (λ q I h=>aec q I h);have ab:=ab.mod lg (λ I=>auK _ I rfl);exact cO _ _ ⟨k+1,Z,Z,lu,ht,fz,eS,gK,g_,ab,by omega⟩ (by omega) (.cons Z (.cons Z (.cons Z (.cons Z (.cons Z (.cons Z (.cons Z (.cons Z (.cons Z (.cons Z (.cons Z (.cons Z (.cons (bO Z) .nil)))))))))))))
 ·refine c_<|c9<|dn<|c8<|bX<|aT<|rg<|J (nz (r:=1) Z Z (by decide) (by decide))<|vm Z<|nl<|nO<|kp<|ai<|J (blt Z Z)<|ag<|az<|fe Z<|bt<|az<|bA<|az<| ?_;refine rg<|J (v:= .slice a.S W.bg.length a.s) (zn Z Z (by kernel_rfl))<|va Z<|ag<|ai<|vm Z<|vm Z<|J (Ff underlying22 Z)<|J (bc underlying22 cU Z Z)<|va Z<|ag<|ai<|vm Z<|J (cj underlying22 Z)<|vm Z<|ag<|bA<| ?_;refine dX (λ b4 b2 aG=>∃ k:Nat,b2= [(1, .pointer (some ⟨bw,0,none⟩)),(3, .slice a.S a.s a.s),(14, .agg #[.slice a.P W.field.aY.length a.p, .slice a.S W.bg.length a.s, .slice a.M W.bs.length a.m]),(15, .int .i64 1),(16, .bool true),(17, .slice a.S W.bg.length a.s),(18, .slice a.S W.bg.length a.s),(19, .slice a.S W.bg.length a.s),(20, .int .i64 (a.s:Int)),(21, .slice a.S a.s a.s),(22, .slice a.S a.s a.s),(23, .int .i64 (a.s:Int)),(24, .int .i64 (k:Int)),(34, .int .i64 1)]∧b4=a.s - k∧Mod (bj.bV a) w aG∧Raw ax 1 0 aG a.P a.p∧Raw ax 1 0 aG a.S a.s∧Raw ax 1 0 aG a.M a.m∧Raw ax 2 0 aG a.B a.b∧Raw ax 7 5 aG a.T a.t∧aN aG bw (aj.cells a W) 28 (0,0)∧(k≤a.s)) _ _ ⟨0,Z,Z,bR,ht,fz,eS,gK,g_,ab,by omega⟩ (.cons Z (.cons Z (.cons Z (.cons Z (.cons Z (.cons Z (.cons Z (.cons Z (.cons Z (.cons Z (.cons Z (.cons Z (.cons (bO Z) (q4 Z)))))))))))))) ?_;rintro DR aIR sw ⟨k,rfl,rfl,ix,ht,fz,eS,gK,g_,ab,aw⟩;have:=ix.size;have N6:=λ q I=>(ht.lt q I).2;have amx:=λ q I=>(fz.lt q I).2;have aSm:=λ q I=>(eS.lt q I).2;have aSq:=λ q I=>(gK.lt q I).2;have aSt:=λ q I=>(g_.lt q I).2;have aDc:=ab.lt;have L1:(a.s:Int)≤9223372036854775807:=by have:=bQ.xv;omega
  refine ai<|J (blt Z Z)<|ag<|az<| ?_;refine dw Z (λ vZ=> ?_) (λ vZ=> ?_)
  ·refine bt<|az<|bA<|ai<|vm Z<|va Z<|ag<|rg<|vm Z<|vm Z<|J (bY k underlying22 cU Z Z (fz.bu (aX k)) Z (by omega))<| ?_;obtain ⟨aST,ay4⟩:=fz.get (i:=k) (by omega);refine J (ak Z (iI.one bf ay4))<|J (CR Z Z)<|J (bY k underlying22 cU Z Z (fz.bu (aX k)) Z (by omega))<|NW (i:=k) fz (by omega) Z Z cU λ Eh kd fz=> ?_;have:=kd.size;have vp:=ix.md kd (λ q I=> .inl (C9 I));refine nl<|bX<|aT<|rg<|J (bad Z Z (bH (by omega)))<|vm Z<|nl<| ?_;have ht:=ht.mod kd (λ q I h=>ad9 q h I);have eS:=eS.mod kd (λ q I h=>ad8 q I h);have gK:=gK.mod kd (λ q I h=>ad6 q I h);have g_:=g_.mod kd (λ q I h=>aed q I h);have ab:=ab.mod kd (λ I=>auL _ I rfl);exact cO _ _ ⟨k+1,Z,Z,vp,ht,fz,eS,gK,g_,ab,by omega⟩ (by omega) (.cons Z (.cons Z (.cons Z (.cons Z (.cons Z (.cons Z (.cons Z (.cons Z (.cons Z (.cons Z (.cons Z (.cons Z (.cons (bO Z) (q4 Z))))))))))))))
  ·refine c_<|c9<|dn<|c8<|bX<|aT<|rg<|J (nz (r:=2) Z Z (by decide) (by decide))<|vm Z<|nl<|nO<|kp<|ai<|J (blt Z Z)<|ag<|az<|fe Z<|bt<|az<|bA<|az<| ?_;refine rg<|J (v:= .slice a.M W.bs.length a.m) (zn Z Z (by kernel_rfl))<|va Z<|ag<|ai<|vm Z<|vm Z<|J (Ff underlying22 Z)<|J (bc underlying22 cU Z Z)<|va Z<|ag<|ai<|vm Z<|J (cj underlying22 Z)<|vm Z<|ag<|bA<| ?_;refine dX (λ b4 b2 aG=>∃ k:Nat,b2= [(1, .pointer (some ⟨bw,0,none⟩)),(3, .slice a.M a.m a.m),(14, .agg #[.slice a.P W.field.aY.length a.p, .slice a.S W.bg.length a.s, .slice a.M W.bs.length a.m]),(15, .int .i64 2),(16, .bool true),(17, .slice a.M W.bs.length a.m),(18, .slice a.M W.bs.length a.m),(19, .slice a.M W.bs.length a.m),(20, .int .i64 (a.m:Int)),(21, .slice a.M a.m a.m),(22, .slice a.M a.m a.m),(23, .int .i64 (a.m:Int)),(24, .int .i64 (k:Int)),(34, .int .i64 2)]∧b4=a.m - k∧Mod (bj.bV a) w aG∧Raw ax 1 0 aG a.P a.p∧Raw ax 1 0 aG a.S a.s∧Raw ax 1 0 aG a.M a.m∧Raw ax 2 0 aG a.B a.b∧Raw ax 7 5 aG a.T a.t∧aN aG bw (aj.cells a W) 28 (0,0)∧(k≤a.m)) _ _ ⟨0,Z,Z,ix,ht,fz,eS,gK,g_,ab,by omega⟩ (.cons Z (.cons Z (.cons Z (.cons Z (.cons Z (.cons Z (.cons Z (.cons Z (.cons Z (.cons Z (.cons Z (.cons Z (.cons (bO Z) (q4 Z)))))))))))))) ?_;rintro YL aIX JL ⟨k,rfl,rfl,sB,ht,fz,eS,gK,g_,ab,aw⟩;have:=sB.size;have aFs:=λ q I=>(ht.lt q I).2;have GG:=λ q I=>(fz.lt q I).2;have N7:=λ q I=>(eS.lt q I).2;have zW:=λ q I=>(gK.lt q I).2;have aFt:=λ q I=>(g_.lt q I).2;have aDh:=ab.lt;have L1:(a.m:Int)≤9223372036854775807:=by have:=bQ.xv;omega
   refine ai<|J (blt Z Z)<|ag<|az<| ?_;refine dw Z (λ awA=> ?_) (λ awA=> ?_)
   ·refine bt<|az<|bA<|ai<|vm Z<|va Z<|ag<|rg<|vm Z<|vm Z<|J (bY k underlying22 cU Z Z (eS.bu (aX k)) Z (by omega))<| ?_;obtain ⟨aSU,ay7⟩:=eS.get (i:=k) (by omega);refine J (ak Z (iI.one bf ay7))<|J (CR Z Z)<|J (bY k underlying22 cU Z Z (eS.bu (aX k)) Z (by omega))<|NW (i:=k) eS (by omega) Z Z cU λ amX Gh eS=> ?_;have:=Gh.size;have J7:=sB.md Gh (λ q I=> .inl (Ft I));refine nl<|bX<|aT<|rg<|J (bad Z Z (bH (by omega)))<|vm Z<|nl<| ?_;have ht:=ht.mod Gh (λ q I h=>ad7 q h I);have fz:=fz.mod Gh (λ q I h=>ad8 q h I);have gK:=gK.mod Gh (λ q I h=>ad4 q I h);have g_:=g_.mod Gh (λ q I h=>aeb q I h);have ab:=ab.mod Gh (λ I=>auJ _ I rfl);exact cO _ _ ⟨k+1,Z,Z,J7,ht,fz,eS,gK,g_,ab,by omega⟩ (by omega) (.cons Z (.cons Z (.cons Z (.cons Z (.cons Z (.cons Z (.cons Z (.cons Z (.cons Z (.cons Z (.cons Z (.cons Z (.cons (bO Z) (q4 Z))))))))))))))
   ·refine c_<|c9<|dn<|c8<|bX<|aT<|rg<|J (nz (r:=3) Z Z (by decide) (by decide))<|vm Z<|nl<|nO<|kp<|ai<|J (blt Z Z)<|ag<|az<|hL Z<|c_<|c9<|dn<|c8<|aT<| ?_;refine az<|ai<|J (au pS Z)<|J (ak Z (ab.one sY Z))<|J (au pS Z)<|J (ak Z (ab.one sY Z))<|J (Ff underlying25 Z)<|J (bc underlying25 bW Z Z)<|J (cj underlying25 Z)<|vm Z<|ag<|bA<| ?_;refine dX (λ b4 b2 aG=>∃ k:Nat,b2= [(1, .pointer (some ⟨bw,0,none⟩)),(41, .int .i64 (a.b:Int)),(42, .int .i64 (k:Int))]∧b4=a.b - k∧Mod (bj.bV a) w aG∧Raw ax 1 0 aG a.P a.p∧Raw ax 1 0 aG a.S a.s∧Raw ax 1 0 aG a.M a.m∧Raw ax 2 0 aG a.B a.b∧Raw ax 7 5 aG a.T a.t∧aN aG bw (aj.cells a W) 28 (0,0)∧(k≤a.b)) _ _ ⟨0,Z,Z,sB,ht,fz,eS,gK,g_,ab,by omega⟩ (.cons Z (.cons Z (.cons (bO Z) .nil))) ?_;rintro sj aI4 aan ⟨k,rfl,rfl,Cd,ht,fz,eS,gK,g_,ab,aw⟩;have:=Cd.size;have N9:=λ q I=>(ht.lt q I).2;have N_:=λ q I=>(fz.lt q I).2;have aSD:=λ q I=>(eS.lt q I).2;have aFu:=λ q I=>(gK.lt q I).2;have S7:=λ q I=>(g_.lt q I).2;have Zn:=ab.lt;have L1:(a.b:Int)≤9223372036854775807:=by have:=bQ.xv;omega
    refine ai<|J (blt Z Z)<|ag<|az<| ?_;refine dw Z (λ FC=> ?_) (λ FC=> ?_)
    ·refine bt<|az<|bA<|ai<|vm Z<|va Z<|ag<|rg<|J (au pS Z)<|J (ak Z (ab.one sY Z))<|J (au pS Z)<|J (ak Z (ab.one sY Z))<|J (Ff underlying25 Z)<|J (bc underlying25 bW Z Z)<|vm Z<|J (bY k underlying25 bW Z Z (gK.bu (aX k)) Z (by omega))<|J (au ij Z)<| ?_;obtain ⟨aSV,ay9⟩:=gK.get (i:=k) (by omega);refine J (ak Z (iI.one bf ay9))<|J (CR Z Z)<|J (bY k underlying25 bW Z Z (gK.bu (aX k)) Z (by omega))<|J (au ij Z)<|NW (i:=k) gK (by omega) Z Z cU λ Tr mq gK=> ?_;have:=mq.size;have Cf:=Cd.md mq (λ q I=> .inl (QM I));refine nl<|bX<|aT<|rg<|J (bad Z Z (bH (by omega)))<|vm Z<|nl<| ?_;have ht:=ht.mod mq (λ q I h=>ad5 q h I);have fz:=fz.mod mq (λ q I h=>ad6 q h I);have eS:=eS.mod mq (λ q I h=>ad4 q h I);have g_:=g_.mod mq (λ q I h=>aea q I h);have ab:=ab.mod mq (λ I=>auI _ I rfl);exact cO _ _ ⟨k+1,Z,Z,Cf,ht,fz,eS,gK,g_,ab,by omega⟩ (by omega) (.cons Z (.cons Z (.cons (bO Z) .nil)))
    ·refine c_<|c9<|dn<|c8<|aT<|ai<|J (au iO Z)<|J (ak Z (ab.one j7 Z))<|J (au iO Z)<|J (ak Z (ab.one j7 Z))<|J (Ff underlying26 Z)<|J (bc underlying26 jd Z Z)<|J (cj underlying26 Z)<|vm Z<|ag<|bA<| ?_;refine dX (λ b4 b2 aG=>∃ k:Nat,b2= [(1, .pointer (some ⟨bw,0,none⟩)),(65, .int .i64 (a.t:Int)),(66, .int .i64 (k:Int))]∧b4=a.t - k∧Mod (bj.bV a) w aG∧Raw ax 1 0 aG a.P a.p∧Raw ax 1 0 aG a.S a.s∧Raw ax 1 0 aG a.M a.m∧Raw ax 2 0 aG a.B a.b∧Raw ax 7 5 aG a.T a.t∧aN aG bw (aj.cells a W) 28 (0,0)∧(k≤a.t)) _ _ ⟨0,Z,Z,Cd,ht,fz,eS,gK,g_,ab,by omega⟩ (.cons Z (.cons Z (.cons (bO Z) .nil))) ?_;rintro mr aJb Ts ⟨k,rfl,rfl,yA,ht,fz,eS,gK,g_,ab,aw⟩;have:=yA.size;have aFw:=λ q I=>(ht.lt q I).2;have aFx:=λ q I=>(fz.lt q I).2;have aSG:=λ q I=>(eS.lt q I).2;have aSH:=λ q I=>(gK.lt q I).2;have BQ:=λ q I=>(g_.lt q I).2;have aDo:=ab.lt;have L1:(a.t:Int)≤9223372036854775807:=by have:=bQ.xv;omega
     refine ai<|J (blt Z Z)<|ag<|az<| ?_;refine dw Z (λ wa=> ?_) (λ wa=> ?_)
     ·refine bt<|az<|bA<|ai<|vm Z<|va Z<|ag<|rg<|J (au iO Z)<|J (ak Z (ab.one j7 Z))<|J (au iO Z)<|J (ak Z (ab.one j7 Z))<|J (Ff underlying26 Z)<|J (bc underlying26 jd Z Z)<|vm Z<|J (bY k underlying26 jd Z Z (g_.bu (aX k)) Z (by omega))<|J (au HZ Z)<| ?_;obtain ⟨aSW,aza⟩:=g_.get (i:=k) (by omega);refine J (ak Z (iI.one bf aza))<|J (CR Z Z)<|J (bY k underlying26 jd Z Z (g_.bu (aX k)) Z (by omega))<|J (au HZ Z)<|NW (i:=k) g_ (by omega) Z Z cU λ am0 Gi g_=> ?_;have:=Gi.size;have OL:=yA.md Gi (λ q I=> .inl (qG I));refine nl<|bX<|aT<|rg<|J (bad Z Z (bH (by omega)))<|vm Z<|nl<| ?_;have ht:=ht.mod Gi (λ q I h=>aec q h I);have fz:=fz.mod Gi (λ q I h=>aed q h I);have eS:=eS.mod Gi (λ q I h=>aeb q h I);have gK:=gK.mod Gi (λ q I h=>aea q h I);have ab:=ab.mod Gi (λ I=>auM _ I rfl);exact cO _ _ ⟨k+1,Z,Z,OL,ht,fz,eS,gK,g_,ab,by omega⟩ (by omega) (.cons Z (.cons Z (.cons (bO Z) .nil)))
     ·refine c_<|c9<|dn<|c8<|ne<|bb .nil<| ?_;exact ⟨Z,yA⟩
end
section
def pG (ax size:Nat) (G:Nat→Value→Prop) (w:World) (A:Option Addr) (c:Nat):Prop :=
 (A=none∧c=0)∨∃ (b o:Nat) (cur:List Value) (e:TypeId),A=some ⟨b,o,none⟩∧ax≤b∧aN w b cur e (0,0)∧∀ i,i<c→∃ u,cur[o+i * size]? =some u∧G i u
section
variable {w w':World} {ax size c i:Nat} {A:Option Addr} {S:List Nat} {G EK:Nat→Value→Prop}
theorem pG.lt (h:pG ax size G w A c):∀ q∈κ.ae A,ax≤q∧q<w.heap.size:=by
 intro q I;rcases h with ⟨rfl,_⟩ | ⟨b,o,cur,e,rfl,γ,aa,_⟩
 ·simp [κ.ae] at I
 ·obtain rfl:q=b:=aUg.1 I;exact ⟨γ,aa.lt⟩
theorem pG.bu (h:pG ax size G w A c) (aI:0<c):A=some ⟨cu A,du A,none⟩:=by
 rcases h with ⟨_,h⟩ | ⟨b,o,cur,e,rfl,_⟩
 ·omega
 ·rfl
theorem pG.get (h:pG ax size G w A c) (aq:i<c):∃ u,w.cell? ⟨cu A,du A+i * size,none⟩=some u∧G i u:=by
 rcases h with ⟨_,h⟩ | ⟨b,o,cur,e,rfl,_,av,aV⟩
 ·omega
 ·obtain ⟨u,hm,bD⟩:=aV i aq;exact ⟨u,by rw [show (⟨cu (some ⟨b,o,none⟩),du (some ⟨b,o,none⟩)+i * size,none⟩:Addr)=⟨b,o+i * size,none⟩ from by simp [cu,du],av.cell,hm],bD⟩
theorem pG.set (h:pG ax size G w A c) (hs:0<size) (aq:i<c) (v:Value) (bD:∀ k v,k≠i→G k v→EK k v) (hv:EK i v):pG ax size EK (w.setCell ⟨cu A,du A+i * size,none⟩ v) A c:=by
 rcases h with ⟨_,h⟩ | ⟨b,o,cur,e,rfl,γ,av,aV⟩
 ·omega
 ·rw [show (⟨cu (some ⟨b,o,none⟩),du (some ⟨b,o,none⟩)+i * size,none⟩:Addr)=⟨b,o+i * size,none⟩ from by simp [cu,du]];refine .inr ⟨b,o,_,e,Z,γ,av.set _ _,λ k aw=> ?_⟩;obtain ⟨u,hm,hu⟩:=aV k aw;by_cases he:i=k
  ·subst he;exact ⟨v,aUG (aUj.1 hm).1,hv⟩
  ·have dY:o+i * size≠o+k * size:=λ e=>he (Nat.eq_of_mul_eq_mul_right hs (by omega));exact ⟨u,by rw [aUJ dY,hm],bD k u (λ e=>he e.symm) hu⟩
theorem pG.free (h:pG ax size G w A c) (aq:i<c) (k:Nat):w.frozen? ⟨cu A,k,none⟩=false:=by
 rcases h with ⟨_,h⟩ | ⟨b,o,cur,e,rfl,γ,av,aV⟩
 ·omega
 ·exact av.free k (.inr (aU6 _))
end
theorem aEv {P:Program} {n:Nat} {E:List (Nat×Value)} {w:World} {Q:Exit→Act→World→Prop} {ops:Array Oper} {ty:TypeId} {pos:String} {af:Array Edge} {x y:Operand} {t:TypeId} {rest:List Oper} {ax size c i:Nat} {G EK:Nat→Value→Prop} {A:Option Addr} {v:Value}
  (h:pG ax size G w A c) (II:0<size) (aq:i<c) (hx:ev E x=some (.pointer (some ⟨cu A,du A+i * size,none⟩))) (aH:ev E y=some v) (qO:v.cells=#[v]) (nI:v.oneCell'=true) (hs:ez P t 1) (bD:∀ k v,k≠i→G k v→EK k v) (hv:EK i v)
  (aw:∀ aP,Mod (κ.ae A) w aP→pG ax size EK aP A c→cG P n ops Q rest E aP):cG P n ops Q (⟨none, .store t x y,ty,pos,af,none⟩::rest) E w:=by
 obtain ⟨m,hm,_⟩:=h.get aq;have hA:=h.bu (by omega);have hf:=h.free aq (du A+i * size);have uL:Mod (κ.ae A) w (w.setCell ⟨cu A,du A+i * size,none⟩ v):=by
  have:=Mod.setCell w ⟨cu A,du A+i * size,none⟩ v;refine this.sub λ q I=> ?_;rw [hA];exact aUg.2 (aUg.1 I)
 refine us (w':=w.setCell ⟨cu A,du A+i * size,none⟩ v) (λ n a ha=> ?_) (aw _ uL (h.set II aq v bD hv));have hh:(storeVar t ⟨cu A,du A+i * size,none⟩ v).run P w= .ok () (w.setCell ⟨cu A,du A+i * size,none⟩ v):=by
  unfold storeVar;simp only [qO,aUv,hs w,aUo,aVC,aUn,aUt,aZg,aVm,aWS,aVs,storeCells];have:(⟨cu A,du A+i * size,none⟩:Addr).add 0=⟨cu A,du A+i * size,none⟩:=rfl;rw [this,aYX P w _ v _ nI,hm];simp only [hf,aUY,aVs,aUo,aUA]
 simp only [execOp,ha.ev hx,ha.ev aH,Instr.storeAt,Instr.sureAddr,aUv,aUA,aUo,hh]
section
variable {w:World} {ax c i k:Nat} {A:Option Addr}
theorem pG.aBS {α:Type} {R:κ α} {e by_:Nat} {l:List α} {G:Nat→Value→Prop} (h:R.aD e by_ w ax (κ.ae A) A c l) (bB:R.size=1) (hr:∀ k u,R.raw 0 u→G k u):pG ax 1 G w A c:=by
 obtain ⟨_,ps,_,_,⟨_,b5⟩,_⟩:=h;rcases b5 with ⟨γ,_⟩ | ⟨b,cap,cur,γ,aa,av,aV,bJ,cg,ef,gz⟩
 ·injection γ with γ _ aa;exact .inl ⟨γ,aa⟩
 ·injection γ with γ _ s3
  subst s3;refine .inr ⟨b,0,cur.toList,e,γ,aa,by unfold aN;simpa using av,λ i aq=> ?_⟩;have bE:0+i * 1<cur.size:=by
   rw [cg,bB];omega
  refine ⟨cur[0+i * 1],by simp only [aVg,aV5 bE],hr _ _ ?_⟩;have:=gz (0+i * 1) _ (aV5 bE)
  rwa [bB,Nat.mod_one] at this
end
end
section
open Go.Proofs.YtlikikpgmmkjbaaGreat.fj
theorem aD1 {w:World} {A:Option Addr} {n c:Nat} (h:(.slice (.cons (.slice aO.sh 48) (.cons (.int .i64) (.cons .bool .nil))) 40:fP).hV w [.slice A n c]):∃ (U:List bn) (S:List ch),n=U.length∧bn.rep.aK 40 w A c U∧oS w U S:=by
 have sub:∀ (w:World) (cs:List Value),(.cons (.slice aO.sh 48) (.cons (.int .i64) (.cons .bool .nil)):fP).hV w cs→∃ (v:bn) (l:List aO),cs=v.cells∧fK v.late∧v.n=l.length∧aO.rep.aK 48 w v.a v.c l:=by
  rintro w cs ⟨xs,ys,rfl,_,_,γ,⟨aGZ,aG8,rfl,_,_,⟨n,rfl,hn⟩,⟨aG1,aG9,rfl,_,_,⟨b,rfl⟩,rfl⟩⟩⟩;obtain ⟨A,c,l,rfl,aB⟩:=κ.tv (R:=aO.rep) (by_:=48) aO.opens rfl (by decide) γ;exact ⟨⟨A,l.length,c,n,b⟩,l,Z,hn,Z,aB⟩
 obtain ⟨bL,b_,U,e,uC⟩:=κ.tv (R:=bn.rep) (by_:=40) (λ w cs h=>by obtain ⟨v,l,γ,aa,_⟩:=sub w cs h;exact ⟨v,γ,aa⟩) rfl (by decide) h;simp only [aV7,aXk,and_true] at e;obtain ⟨rfl,rfl,rfl⟩:=e;have at_:∀ (i:Nat),i<U.length→∃ s:ch,∃ v,U[i]? =some v∧v.late=s.late∧v.gone=s.gone∧v.n=s.waits.length∧aO.rep.aK 48 w v.a v.c s.waits:=by
  intro i aq;obtain ⟨v,hv⟩:∃ v,U[i]? =some v:=⟨_,aUk aq⟩;obtain ⟨b,o,rfl,hc⟩:=uC.at_ (by omega);obtain ⟨es,a8,bl⟩:=hc i v hv;rcases h with h | ⟨a,len,cap,e,hlen,_,_,dB⟩
  ·simp at h
  ·simp only [aV7,aXk,and_true,aWm] at e;obtain ⟨rfl,rfl,rfl⟩:=e;obtain ⟨fs,f1,f2,f3⟩:=dB i (by omega);obtain ⟨v',l,rfl,_,av,aV⟩:=sub w fs f3;have dF:=bl 0 (.slice v.a v.n v.c) (by rw [l0 a8];rfl);have dt:=f2 0 (.slice v'.a v'.n v'.c) rfl;have jj:=dF.symm.trans (show w.cell? ⟨b,o+(i * 3+0),none⟩=some (.slice v'.a v'.n v'.c) from by rw [← dt];simp [Addr.add,show ((aO.sh.slice 48).cons ((fP.int IntKind.i64).cons (fP.bool.cons fP.nil))).size=3 from rfl];split<;>simp_all);simp only [aWm,aXk] at jj;obtain ⟨F2,F3,MD⟩:=jj;exact ⟨⟨l,v.late,v.gone⟩,v,hv,Z,Z,by rw [F3];exact av,by rw [F2,MD];exact aV⟩
 obtain ⟨S,hS,Ih⟩:=Yw U.length _ at_;refine ⟨U,S,Z,uC,⟨by simp [hS],λ i v aq=> ?_⟩, ?_⟩
 ·rw [aUx] at aq;cases b7:U[i]? with
  | none=>rw [b7] at aq;cases aq
  | some u =>
   rw [b7] at aq;obtain rfl:=aUh aq;have zh:i<S.length:=by rw [hS];exact (aUj.1 b7).1
   obtain ⟨v,γ,_,_,aV,bJ⟩:=Ih i zh;rw [b7] at γ;obtain rfl:=aUh γ;exact ⟨S[i].waits,by rw [aUx,aUk zh];rfl,aV,bJ⟩
 ·apply aVJ;intro i;rw [aUx,aUx];rcases aVf i S.length with aq | aq
  ·obtain ⟨v,γ,aa,av,_⟩:=Ih i aq;rw [γ,aUk aq];simp only [aVL,aa,av]
  ·rw [aVp aq,aVp (by omega)];rfl
theorem ayr {w:World} {b3:Array Value} (h:(.cons (.cons aj.sh (.cons (.slice (.slice aO.sh 48) 24) .nil)) (.cons (.slice (.cons (.slice aO.sh 48) (.cons (.int .i64) (.cons .bool .nil))) 40) (.cons (.cons (.int .u32) (.cons (.slice (.int .u32) 4) .nil)) (.cons (.int .i64) .nil))):fP).hV w b3.toList):∃ (aR:iZ) (Hx:cN),b3=(cN.cells aR Hx).toArray∧cN.Has w aR Hx:=by
 obtain ⟨_,_,e,_,_,⟨cs,ds,rfl,_,_,γ,⟨es,fs,rfl,_,_,aa,rfl⟩⟩,⟨_,_,rfl,_,_,av,⟨_,_,rfl,_,_,⟨_,_,rfl,_,_,⟨m,rfl,hm⟩,⟨_,_,rfl,_,_,aV,rfl⟩⟩,⟨_,_,rfl,_,_,⟨hi,rfl,_⟩,rfl⟩⟩⟩⟩:=h;obtain ⟨a,W,rfl,bQ⟩:=aj.opens w cs γ;obtain ⟨A,c,xf,rfl,_⟩:=κ.tv (R:=aO.rep.slice 51 48) (by_:=24) (λ w cs h=>by
  obtain ⟨A,c,l,e,aB⟩:=κ.tv (R:=aO.rep) (by_:=48) aO.opens rfl (by decide) h;exact ⟨l,A,c,e,aB⟩) Z (by decide) aa
 obtain ⟨T,L,hn,b7,mj⟩:=aCb aa;obtain ⟨B,d,aJv,rfl,_⟩:=κ.tv (R:=bn.rep) (by_:=40) (λ w cs h=>by
  obtain ⟨xs,ys,rfl,_,_,γ,⟨aGZ,aG8,rfl,_,_,⟨n,rfl,hn⟩,⟨aG1,aG9,rfl,_,_,⟨b,rfl⟩,rfl⟩⟩⟩:=h;obtain ⟨A,c,l,rfl,aB⟩:=κ.tv (R:=aO.rep) (by_:=48) aO.opens rfl (by decide) γ;exact ⟨⟨A,l.length,c,n,b⟩,Z,hn⟩) Z (by decide) av
 obtain ⟨U,S,zk,uC,hS⟩:=aD1 av;have wf:∀ {n:Int},(Lit.int .u32 n).wf=true→0≤n∧n<4294967296:=fun {n} h=>by
  simp [Lit.wf,IntKind.min,IntKind.max,IntKind.signed,IntKind.bits] at h;omega
 obtain ⟨C,auP,V,rfl,qK⟩:=κ.tv (R:=dj.rep) (by_:=4) (λ w cs h=>by
  obtain ⟨n,rfl,hn⟩:=h;have:=wf hn;exact ⟨n.toNat,show [_]= [_]∧_ from ⟨by rw [aZa this.1],by show n.toNat<4294967296;omega⟩⟩) Z (by decide) aV
 have Dw:=wf hm;refine ⟨⟨a,A,c,T,B,d,U,C,auP⟩,⟨W,L,S,m.toNat,V,hi⟩, ?_,⟨bQ,b7,mj,uC,hS,qK,by show m.toNat<_;omega⟩⟩;apply aVK;rw [e,hn,zk];show _=cN.cells _ _;unfold cN.cells;rw [show ((m.toNat:Nat):Int)=m from aZa Dw.1];rfl
def Aj (w:World) (q:Nat) (e:TypeId):Prop:=∃ cur aC,w.heap[q]? =some (.cells cur e aC)
theorem Aj.ne {w:World} {q:Nat} {e e':TypeId} (h:Aj w q e) (k:Aj w q e') (dY:e≠e'):False:=by
 obtain ⟨_,_,h⟩:=h;obtain ⟨_,_,k⟩:=k;rw [h] at k;injection k with k
 injection k with dF dt
 exact dY dt
theorem rE {α:Type} {R:κ α} {w:World} {ax e by_ c:Nat} {A:Option Addr} {l:List α} (h:R.aD e by_ w ax (κ.ae A) A c l):∀ q∈κ.ae A,Aj w q e:=λ q I=>by
 obtain ⟨cur,h⟩:=ac1 h q I;exact ⟨_,_,h⟩
theorem bj.HD {w:World} {ax:Nat} {a:aj.cq} {W:aj} (h:bj w ax a W):∀ q∈bj.bV a,Aj w q 3 ∨Aj w q 49 ∨Aj w q 66 :=λ q I=>by
 unfold bj.bV at I;simp only [aUy] at I;rcases I with (((I | I) | I) | I) | I
 ·exact .inl (rE h.P q I)
 ·exact .inr (.inl (rE h.B q I))
 ·exact .inl (rE h.S q I)
 ·exact .inl (rE h.M q I)
 ·exact .inr (.inr (rE h.T q I))
structure qA (w:World) (ax:Nat) (A:Option Addr) (n:Nat):Prop where
 row:∀ q∈κ.ae A,ax≤q∧∃ cur:List Value,aN w q cur 51 (0,0)∧∀ i,i<n→∃ m:Int,cur[du A+i * 6+0]? =some (.int .i64 m)
 bu:0<n→A=some ⟨cu A,du A,none⟩
section
variable {w w':World} {ax k n c i:Nat} {A:Option Addr} {S:List Nat} {T:List ej}
theorem qA.of {l:List aO} (h:pH w ax A c l):qA w ax A l.length:=by
 refine ⟨λ q I=>⟨(h.lt q I).1, ?_⟩,λ aI=>h.has.bu aI⟩;obtain ⟨cur,Φ⟩:=h.row q I;refine ⟨cur,Φ,λ i aq=>⟨l[i].by_, ?_⟩⟩;obtain ⟨b,o,rfl,hc⟩:=h.has.at_ (by omega);obtain ⟨es,a8,bl⟩:=hc i _ (aUk aq);obtain rfl:=aUg.1 I;have:=bl 0 (.int .i64 l[i].by_) (by rw [Dg a8];rfl);rw [aN.cell Φ] at this;rw [aWF];exact this
theorem qA.get (h:qA w ax A n) (aq:i<n):∃ m:Int,w.cell? ⟨cu A,du A+i * 6+0,none⟩=some (.int .i64 m):=by
 obtain ⟨_,cur,Φ,hc⟩:=h.row (cu A) (by rw [h.bu (by omega)];exact aUg.2 rfl);obtain ⟨m,hm⟩:=hc i aq;exact ⟨m,by rw [aN.cell Φ];exact hm⟩
theorem qA.free (h:qA w ax A n) (aq:i<n) (j:Nat):w.frozen? ⟨cu A,j,none⟩=false:=by
 obtain ⟨_,cur,Φ,hc⟩:=h.row (cu A) (by rw [h.bu (by omega)];exact aUg.2 rfl);exact Φ.free j (by omega)
theorem qA.mod (h:qA w ax A n) (m:Mod S w w') (hd:∀ q∈κ.ae A,q∉S):qA w' ax A n:=⟨λ q I=>by
 obtain ⟨γ,cur,Φ,hc⟩:=h.row q I;refine ⟨γ,cur, ?_,hc⟩;unfold aN;rw [m.block q Φ.lt (hd q I)];exact Φ,h.bu⟩
theorem qA.set (h:qA w ax A n) (b j:Nat) (v:Int):qA (w.setCell ⟨b,j,none⟩ (.int .i64 v)) ax A n:=⟨λ q I=>by
 obtain ⟨γ,cur,Φ,hc⟩:=h.row q I;by_cases nE:q=b
 ·subst nE;refine ⟨γ,_,Φ.set _ _,λ i aq=> ?_⟩;obtain ⟨m,hm⟩:=hc i aq;by_cases he:j=du A+i * 6+0
  ·rw [he];exact ⟨v,aUG (aUj.1 hm).1⟩
  ·exact ⟨m,by rw [aUJ he];exact hm⟩
 ·refine ⟨γ,cur, ?_,hc⟩;unfold aN;rw [(Mod.setCell w ⟨b,j,none⟩ (.int .i64 v)).block q Φ.lt (λ hs=>nE (aUg.1 hs))];exact Φ,h.bu⟩
def uh (w:World) (ax:Nat) (T:List ej):Prop:=∀ (i:Nat) (v:ej),T[i]? =some v→qA w ax v.a v.n∧v.n≤9223372036854775807
def ki (ax:Nat) (T:List ej) (k:Nat) (A:Option Addr) (n c:Nat) (w:World):Prop:=uh w ax T∧T[k]? =some (⟨A,n,c⟩:ej)
theorem uh.mod (h:uh w ax T) (m:Mod S w w') (hd:∀ q∈eL T,q∉S):uh w' ax T:=λ i v aq=>⟨(h i v aq).1.mod m (λ q I=>hd q (SY aq I)),(h i v aq).2⟩
theorem uh.later (h:uh w ax T) (x:Ext w w'):uh w' ax T:=h.mod (S:= []) (Mod.bF x) λ _ _ h=>by simp at h
theorem uh.lt (h:uh w ax T):∀ q∈eL T,ax≤q∧q<w.heap.size:=λ q I=>by
 obtain ⟨i,v,aq,I⟩:=SX I;obtain ⟨γ,cur,Φ,_⟩:=(h i v aq).1.row q I;exact ⟨γ,Φ.lt⟩
theorem ki.Y2 (h:ki ax T k A n c w):qA w ax A n:=(h.1 k _ h.2).1
theorem ki.cap (h:ki ax T k A n c w):n≤9223372036854775807:=(h.1 k _ h.2).2
theorem ki.lt (h:ki ax T k A n c w):∀ q∈eL T,ax≤q∧q<w.heap.size:=h.1.lt
theorem ki.later (h:ki ax T k A n c w) (x:Ext w w'):ki ax T k A n c w':=⟨h.1.later x,h.2⟩
theorem ki.mod (h:ki ax T k A n c w) (m:Mod S w w') (hd:∀ q∈eL T,q∉S):ki ax T k A n c w':=⟨h.1.mod m hd,h.2⟩
theorem ki.bu (h:ki ax T k A n c w) (aI:0<n):A=some ⟨cu A,du A,none⟩:=h.Y2.bu aI
theorem ki.get (h:ki ax T k A n c w) (aq:i<n):∃ m:Int,w.cell? ⟨cu A,du A+i * 6+0,none⟩=some (.int .i64 m):=h.Y2.get aq
theorem ki.free (h:ki ax T k A n c w) (aq:i<n) (j:Nat):w.frozen? ⟨cu A,j,none⟩=false:=h.Y2.free aq j
theorem ki.set (h:ki ax T k A n c w) (v:Int):ki ax T k A n c (w.setCell ⟨cu A,du A+i * 6+0,none⟩ (.int .i64 v)):=⟨λ aii v' hv=>⟨(h.1 aii v' hv).1.set _ _ v,(h.1 aii v' hv).2⟩,h.2⟩
theorem al0 {P:Program} {m:Nat} {E:List (Nat×Value)} {Q:Exit→Act→World→Prop} {ops:Array Oper} {ty:TypeId} {pos:String} {af:Array Edge} {x y:Operand} {t:TypeId} {rest:List Oper} {v:Int}
  (h:ki ax T k A n c w) (aq:i<n) (hx:ev E x=some (.pointer (some ⟨cu A,du A+i * 6+0,none⟩))) (aH:ev E y=some (.int .i64 v)) (hs:ez P t 1)
  (aw:∀ aP,Mod (eL T) w aP→ki ax T k A n c aP→cG P m ops Q rest E aP):cG P m ops Q (⟨none, .store t x y,ty,pos,af,none⟩::rest) E w:=by
 obtain ⟨m,hm⟩:=h.get aq;have hA:=h.bu (by omega);have hf:=h.free aq (du A+i * 6+0);have uL:Mod (κ.ae A) w (w.setCell ⟨cu A,du A+i * 6+0,none⟩ (.int .i64 v)):=by
  have:=Mod.setCell w ⟨cu A,du A+i * 6+0,none⟩ (.int .i64 v);refine this.sub λ q I=> ?_;rw [hA];exact aUg.2 (aUg.1 I)
 have uL:=uL.sub (S':=eL T) λ q I=>SY h.2 I;refine us (w':=w.setCell ⟨cu A,du A+i * 6+0,none⟩ (.int .i64 v)) (λ aPc a ha=> ?_) (aw _ uL (h.set v));have hh:(storeVar t ⟨cu A,du A+i * 6+0,none⟩ (.int .i64 v)).run P w= .ok () (w.setCell ⟨cu A,du A+i * 6+0,none⟩ (.int .i64 v)):=by
  have qO:(Value.int .i64 v).cells=#[.int .i64 v]:=rfl;unfold storeVar;simp only [qO,aUv,hs w,aUo,aVC,aUn,aUt,aZg,aVm,aWS,aVs,storeCells];have:(⟨cu A,du A+i * 6+0,none⟩:Addr).add 0=⟨cu A,du A+i * 6+0,none⟩:=rfl;rw [this,aYX P w _ (.int .i64 v) _ rfl,hm];simp only [hf,aUY,aVs,aUo,aUA]
 simp only [execOp,ha.ev hx,ha.ev aH,Instr.storeAt,Instr.sureAddr,aUv,aUA,aUo,hh]
end
def rv (aP w:World):Prop:=Ext aP w
theorem rv.later {aP w w':World} (h:rv aP w) (x:Ext w w'):rv aP w':=τ h x
theorem rv.mod {aP w w':World} {S:List Nat} (h:rv aP w) (m:Mod S w w') (hd:∀ q,q<aP.heap.size→q∉S):rv aP w':=Ext.mod h m λ q I=>Nat.le_of_not_lt λ aB=>hd q aB I
theorem eR.ord {w:World} {ax:Nat} {h:iZ} {x:cN} (k:eR w ax h x):uh w ax (h.U.map bn.fh++h.T):=λ i v aq=>by
 rcases aVf i (h.U.map bn.fh).length with aB | aB
 ·rw [aUC aB,aUx] at aq;cases uC:h.U[i]? with
  | none=>rw [uC] at aq;cases aq
  | some u =>
   rw [uC] at aq;obtain rfl:=aUh aq;obtain ⟨s,γ,aa,av⟩:=k.S.2 i u uC;have aV:=qA.of av;rw [← aa] at aV;have bJ:=av.has.1;have cg:=av.has.2.1;exact ⟨aV,by show u.n≤_;omega⟩
 ·rw [aUF aB] at aq;obtain ⟨l,γ,aa,av⟩:=k.L.2 _ v aq;have aV:=qA.of (pH.of av);rw [← aa] at aV;have bJ:=av.has.1;have cg:=av.has.2.1;exact ⟨aV,by omega⟩
structure aoA (h:iZ):Prop where
 aF5:∀ q∈bj.bV h.a,q∈κ.ae h.A→False
 Th:∀ q∈bj.bV h.a,q∈κ.ae h.B→False
 aF6:∀ q∈bj.bV h.a,q∈κ.ae h.C→False
 aF7:∀ q∈bj.bV h.a,q∈eL (h.U.map bn.fh++h.T)→False
 aa3:∀ q∈κ.ae h.A,q∈eL (h.U.map bn.fh++h.T)→False
 abl:∀ q∈κ.ae h.B,q∈eL (h.U.map bn.fh++h.T)→False
 T_:∀ q∈κ.ae h.C,q∈eL (h.U.map bn.fh++h.T)→False
 AC:∀ q∈κ.ae h.A,q∈κ.ae h.C→False
 abk:∀ q∈κ.ae h.B,q∈κ.ae h.C→False
theorem af2 {h:iZ} {q:Nat} (k:q∈bj.bV h.a):q∈eR.bV h:=by unfold eR.bV;simp [k]
theorem afZ {h:iZ} {q:Nat} (k:q∈κ.ae h.A):q∈eR.bV h:=by unfold eR.bV;simp [k]
theorem af0 {h:iZ} {q:Nat} (k:q∈κ.ae h.B):q∈eR.bV h:=by unfold eR.bV;simp [k]
theorem af1 {h:iZ} {q:Nat} (k:q∈κ.ae h.C):q∈eR.bV h:=by unfold eR.bV;simp [k]
theorem afY {h:iZ} {q:Nat} (k:q∈eL (h.U.map bn.fh++h.T)):q∈eR.bV h:=by
 have k:q∈eL (h.U.map bn.fh)∨q∈eL h.T:=by unfold eL at k ⊢;rw [aVx] at k;exact aUy.1 k
 unfold eR.bV eY;rcases k with k | k<;>simp [k]
theorem eR.jc {w:World} {ax:Nat} {h:iZ} {x:cN} (k:eR w ax h x):aoA h:=by
 have SW:∀ q∈eL (h.U.map bn.fh++h.T),Aj w q 51 :=λ q I=>by
  obtain ⟨i,v,aq,I⟩:=SX I;obtain ⟨_,cur,Φ,_⟩:=(k.ord i v aq).1.row q I;exact ⟨_,_,Φ⟩
 have Se:∀ q∈bj.bV h.a,∀ e:TypeId,Aj w q e→e≠ 3 →e≠ 49 →e≠ 66 →False:=λ q I e he γ aa av=>by
  rcases k.W.HD q I with h | h | h
  ·exact he.ne h γ
  ·exact he.ne h aa
  ·exact he.ne h av
 exact ⟨λ q γ aa=>Se q γ _ (rE k.T q aa) (by decide) (by decide) (by decide),λ q γ aa=>Se q γ _ (rE k.U q aa) (by decide) (by decide) (by decide),λ q γ aa=>Se q γ _ (rE k.V q aa) (by decide) (by decide) (by decide),λ q γ aa=>Se q γ _ (SW q aa) (by decide) (by decide) (by decide),λ q γ aa=>(rE k.T q γ).ne (SW q aa) (by decide),λ q γ aa=>(rE k.U q γ).ne (SW q aa) (by decide),λ q γ aa=>(rE k.V q γ).ne (SW q aa) (by decide),λ q γ aa=>(rE k.T q γ).ne (rE k.V q aa) (by decide),λ q γ aa=>(rE k.U q γ).ne (rE k.V q aa) (by decide)⟩
end
section
open Go.Proofs.YtlikikpgmmkjbaaGreat.fj
theorem auW (A B:Option Addr) (c d hX dW:Nat) (l m:List dj) (w:World) (γ:dj.rep.aK hX w A c l) (aa:dj.rep.aK dW w B d m):
  Calls prog 38 #[.slice A l.length c, .slice B m.length d] w (λ e w'=>e= .returned (.bool (decide (l=m)))∧Ext w w'):=by
 have hle:=γ.dT;refine cl (n:=26) func38 Z Z Z ?_;refine ai<|va Z<|ag<|az<|ai<|vm Z<|J (cj underlying81 Z)<|vm Z<|J (cj underlying81 Z)<|J (bne Z Z)<|ag<| ?_;refine eU Z (λ j'=> ?_) (λ j'=> ?_)
 ·refine ai<|va Z<|ag<|rt<|bT<|bb (.tmp Z .nil)<| ?_;rw [aUU (λ e=>j' (by rw [e]))];exact ⟨Z,(Ext.bK w)⟩
 ·refine bt<|az<|ai<|vm Z<|J (cj underlying81 Z)<|vm Z<|ag<|bA<| ?_;refine dX (λ b4 b2 aG=>∃ k:Nat,b2= [(0, .slice A l.length c),(1, .slice B m.length d),(12, .int .i64 (l.length:Int)),(13, .int .i64 (k:Int))]∧b4=l.length - k∧Ext w aG∧(k≤l.length)∧(∀ j,j<k→l[j]? =m[j]?)) _ _ ⟨0,Z,Z,(Ext.bK w),by omega,λ j aA=>absurd aA (by omega)⟩ (.cons Z (.cons Z (.cons Z (.cons (bO Z) .nil)))) ?_;rintro Ns Km ku ⟨k,rfl,rfl,di,aw,gv⟩;have:=di.size;have hle:=γ.dT;have XL:=aa.dT;refine ai<|J (blt Z Z)<|ag<|az<| ?_;refine dw Z (λ mT=> ?_) (λ mT=> ?_)
  ·obtain ⟨eH,ka⟩:=hC (l:=l) (i:=k) (by omega);obtain ⟨vk,uN⟩:=hC (l:=m) (i:=k) (by omega);refine bt<|az<|bA<|ai<|vm Z<|va Z<|ag<|az<| ?_;refine rd [(3,0),(7,0)] [0,1,2,3,4,5,6,7,8] (by kernel_rfl) (by kernel_rfl) ?_;refine ar Z (λ _=>aM Z)<|ar Z (λ _=>aM Z)<|ar Z (λ _=>bY k underlying81 pP Z Z ((γ.keep di).bu (aX k)) Z (by omega))<|bG Z (λ _ x=>ak Z (κ.aK.fu zf ((γ.keep (τ di x)).cr (aX k)) ka Z og))<|ar Z (λ _=>aM Z)<|ar Z (λ _=>aM Z)<|ar Z (λ _=>bY k underlying81 pP Z Z ((aa.keep di).bu (aX k)) Z (by omega))<|bG Z (λ _ x=>ak Z (κ.aK.fu zf ((aa.keep (τ di x)).cr (aX k)) uN Z og))<|ar Z (λ _=>bne Z Z)<|fn λ Ei nZ=> ?_;have:=nZ.size;have lv:=τ di nZ;refine aT<| ?_;refine eU Z (λ je=> ?_) (λ je=> ?_)
   ·refine ai<|va Z<|ag<|rt<|eK<|bT<|my<|eK<|bT<|bb (.tmp Z .nil)<| ?_;rw [aUU (λ e=>by rw [e,uN] at ka;injection ka with ka;exact absurd ka.symm (by first | exact YZ je | exact je | exact λ e=>je (by rw [e]) | exact Int.ofNat.inj je))];exact ⟨Z,lv⟩
   ·refine fv<|bX<|aT<|rg<|J (bad Z Z (bH (by omega)))<|vm Z<|nl<| ?_;exact cO _ _ ⟨k+1,Z,Z,lv,by omega,th gv (by rw [ka,uN,(by first | exact V9 je | exact je | exact λ e=>je (by rw [e]) | exact Int.ofNat.inj je:eH=vk)])⟩ (by omega) (.cons Z (.cons Z (.cons Z (.cons (bO Z) .nil))))
  ·refine c_<|c9<|dn<|c8<|aT<|ai<|va Z<|ag<|rt<|bb (.tmp Z .nil)<| ?_;rw [aUL (V8 (by omega) (by omega) gv)];exact ⟨Z,di⟩
theorem auV (A B:Option Addr) (c d hX dW:Nat) (l:List bd) (w:World) (γ:bd.rep.aK hX w A c l) (aa:bd.rep.aK dW w B d l):Calls prog 30 #[.slice A l.length c, .slice B l.length d] w (λ e w'=>e= .returned (.bool true)∧Ext w w'):=
 (auY A B c d hX dW l l w γ aa).mono λ e w' h=>⟨by rw [h.1,aUL rfl],h.2⟩
theorem auU (A B:Option Addr) (c d hX dW:Nat) (l:List dj) (w:World) (γ:dj.rep.aK hX w A c l) (aa:dj.rep.aK dW w B d l):Calls prog 38 #[.slice A l.length c, .slice B l.length d] w (λ e w'=>e= .returned (.bool true)∧Ext w w'):=
 (auW A B c d hX dW l l w γ aa).mono λ e w' h=>⟨by rw [h.1,aUL rfl],h.2⟩
theorem afI (A B:Option Addr) (c d hX dW:Nat) (l:List aO) (w:World) (γ:aO.rep.aK hX w A c l) (aa:aO.rep.aK dW w B d l):Calls prog 19 #[.slice A l.length c, .slice B l.length d] w (λ e w'=>e= .returned (.bool true)∧Ext w w'):=
 (auX A B c d hX dW l l w γ aa).mono λ e w' h=>⟨by rw [h.1,aUL rfl],h.2⟩
theorem ahV (aR:iZ) (Hx:cN) (yY:Nat) (hX:Nat) (cp:Option Addr) (c1:Nat) (dW:Nat) (cX:Option Addr) (c2:Nat) (gd:Nat) (ED:Option Addr) (c3:Nat) (CL:List ej) (pJ:Nat) (OT:Option Addr) (c4:Nat) (KT:List ej) (w:World) (dr:cN.Has w aR Hx) (jt:aN w yY (cN.cells aR Hx) 85 (0,0)) (H1:aN w hX [.slice cp Hx.W.ao.length c1] 26 (0,0)) (γ:bd.rep.aK 56 w cp c1 Hx.W.ao) (Ug:aN w dW [.slice cX Hx.V.length c2] 81 (0,0)) (aa:dj.rep.aK 4 w cX c2 Hx.V) (tX:aN w gd [.slice ED CL.length c3] 29 (0,0)) (av:iU.aK 24 w ED c3 CL) (n3:aN w pJ [.slice OT KT.length c4] 29 (0,0)) (aV:iU.aK 24 w OT c4 KT) (Ic:n_ w CL (Hx.S.map ch.waits)) (agw:n_ w KT Hx.L):
  Calls prog 37 #[.pointer (some ⟨yY,0,none⟩), .pointer (some ⟨hX,0,none⟩), .pointer (some ⟨dW,0,none⟩), .pointer (some ⟨gd,0,none⟩), .pointer (some ⟨pJ,0,none⟩)] w (λ e w'=>e= .returned (.bool true)∧Ext w w'):=by
 have XK:=dr.U.dT;have zi:=dr.T.dT;have axM:=dr.S.len;have ahu:=dr.L.1;have axK:=Ic.1;have aLX:=agw.1;rw [aUZ] at axK;refine cl (n:=63) func37 Z Z Z ?_;refine ai<|va Z<|ag<|ai<|J (au rQ Z)<|J (au C6 Z)<|J (au iO Z)<|J (ak Z (jt.one j7 Z))<|J (ak Z (H1.one j7 Z))<|ca auc Z Z ((auV _ _ _ _ _ _ Hx.W.ao _ (dr.W.T.keep (Ext.bK w)) (γ.keep (Ext.bK w))).mono ?_);rintro e cW ⟨rfl,et⟩;refine ⟨_,Z, ?_⟩;have:=et.size;have bk:=τ (Ext.bK w) et;refine vm Z<|iV Z Z Z<|J (au vS Z)<|iV Z Z Z<|J (au qF Z)<|iV Z Z Z<| ?_;have jt:=jt.later et;refine J (ak Z (jt.one rP Z))<|iV Z Z Z<| ?_;have Ug:=Ug.later et;refine J (ak Z (Ug.one rP Z))<|iV Z Z Z<|ca aud Z Z ((auU _ _ _ _ _ _ Hx.V _ (dr.V.keep bk) (aa.keep bk)).mono ?_);rintro e aal ⟨rfl,k2⟩;refine ⟨_,Z, ?_⟩;have:=k2.size;have G3:=τ bk k2;refine J (na Z Z)<|va Z<|ag<|az<|ai<|J (au pQ Z)<| ?_;have jt:=jt.later k2;refine J (ak Z (jt.one uz Z))<|J (cj underlying80 Z)<|vm Z<|ag<|bA<| ?_;have tX:=tX.later (τ et k2);have n3:=n3.later (τ et k2);refine dX (λ b4 b2 aG=>∃ k:Nat,b2= [(0, .pointer (some ⟨yY,0,none⟩)),(3, .pointer (some ⟨gd,0,none⟩)),(4, .pointer (some ⟨pJ,0,none⟩)),(5, .bool false),(6, .bool true),(25, .slice aR.B aR.U.length aR.d),(26, .int .i64 (aR.U.length:Int)),(27, .int .i64 (k:Int))]∧b4=aR.U.length - k∧Ext w aG∧aN aG yY (cN.cells aR Hx) 85 (0,0)∧aN aG gd [.slice ED CL.length c3] 29 (0,0)∧aN aG pJ [.slice OT KT.length c4] 29 (0,0)∧(k≤aR.U.length)) _ _ ⟨0,Z,Z,G3,jt,tX,n3,by omega⟩ (.cons Z (.cons Z (.cons Z (.cons Z (.cons Z (.cons Z (.cons Z (.cons (bO Z) .nil)))))))) ?_;rintro aA0 aoi Ei ⟨k,rfl,rfl,lv,jt,tX,n3,aw⟩;have:=lv.size;have aC1:=jt.lt;have aQc:=tX.lt;have ak6:=n3.lt;refine ai<|J (blt Z Z)<|ag<|az<| ?_;refine dw Z (λ W2=> ?_) (λ W2=> ?_)
 ·obtain ⟨df,cJ,bc,eV,iP,hx⟩:=dr.S.at_ (k:=k) (by omega);obtain ⟨w4,pL,YG,Ik,LN,aH⟩:=Ic.at_ (k:=k) (by omega);rw [aUx,iP] at LN;obtain rfl:bc.waits=YG:=aUh LN;refine bt<|az<|bA<|ai<|vm Z<|J (bY k underlying80 h9 Z Z ((dr.U.keep lv).bu (aX k)) Z (by omega))<|J (ak Z (κ.aK.hb l0 ((dr.U.keep lv).cr (aX k)) eV xB h9))<|al Z Fo Z Z λ hk h7 b8 p6 aL=> ?_;have:=b8.size;have c':=τ lv b8;have oz:=aL.lt;refine va Z<|st (new:= [.slice df bc.waits.length cJ, .int .i64 bc.late, .bool bc.gone]) Z Z aL Z h9 Z Z Z λ nd tl aL=> ?_;have:=tl.size;have eO:=Ext.mod c' tl bx;refine ag<| ?_;refine rd [(3,0),(4,0),(7,0),(8,0)] [0,1,2,3,4,5,6,7,8,9,10] (by kernel_rfl) (by kernel_rfl) ?_;refine ar Z (λ _=>aM Z)<|ar Z (λ _=>aM Z)<|a1 Z Z Z Z Z Z (λ hc _=>au oe Z) Z<|cz Z Z Z Z Z Z (λ hc _ x=>ak Z ((aL.later x).one kL Z)) Z<| ?_;have tX:=tX.later b8;have tX:=tX.mod tl aQ;refine cz Z Z Z Z Z Z (λ hc _ x=>ak Z ((tX.later x).one qE Z)) Z<|a1 Z Z Z Z Z Z (λ hc _=>aM Z) Z<|a1 Z Z Z Z Z Z (λ hc _=>bY k underlying29 uy Z Z ((av.keep eO).bu (aX k (by (try simp only [cH] at hc);omega))) Z (by (try simp only [cH] at hc);omega)) Z<|cz (v:= .slice w4 bc.waits.length pL) Z Z Z Z Z Z (λ hc _ x=>ak Z (κ.aK.fu Dh ((av.keep (τ eO x)).cr (aX k (by (try simp only [cH] at hc);omega))) Ik Z kL)) Z<|ff Z Z Z Z Z Z aft (λ hc=>Z) (λ hc _ x=>afI _ _ _ _ _ _ bc.waits _ (hx.keep (τ eO x)) (aH.keep (τ eO x))) Z<|ar Z (λ _=>na Z Z)<|ar Z (λ _=>fA Z)<|fn λ BS ln=> ?_;have:=ln.size;have qp:=τ eO ln;refine bX<|aT<|rg<|J (bad Z Z (bH (by omega)))<|vm Z<|nl<| ?_;have jt:=jt.later b8;have jt:=jt.mod tl aQ;have jt:=jt.later ln;have tX:=tX.later ln;have n3:=n3.later b8;have n3:=n3.mod tl aQ;have n3:=n3.later ln;exact cO _ _ ⟨k+1,Z,Z,qp,jt,tX,n3,by omega⟩ (by omega) (.cons Z (.cons Z (.cons Z (.cons Z (.cons Z (.cons Z (.cons Z (.cons (bO Z) .nil))))))))
 ·refine c_<|c9<|dn<|c8<|aT<|az<|ai<|J (au rQ Z)<|J (au rN Z)<|J (ak Z (jt.one qE Z))<|J (cj underlying29 Z)<|vm Z<|ag<|bA<| ?_;refine dX (λ b4 b2 aG=>∃ j:Nat,b2= [(4, .pointer (some ⟨pJ,0,none⟩)),(5, .bool false),(6, .bool true),(45, .slice aR.A aR.T.length aR.c),(46, .int .i64 (aR.T.length:Int)),(47, .int .i64 (j:Int))]∧b4=aR.T.length - j∧Ext w aG∧aN aG pJ [.slice OT KT.length c4] 29 (0,0)∧(j≤aR.T.length)) _ _ ⟨0,Z,Z,lv,n3,by omega⟩ (.cons Z (.cons Z (.cons Z (.cons Z (.cons Z (.cons (bO Z) .nil)))))) ?_;rintro x3 aof tG ⟨j,rfl,rfl,gw,n3,aA⟩;have:=gw.size;have ak9:=n3.lt;refine ai<|J (blt Z Z)<|ag<|az<| ?_;refine dw Z (λ nD=> ?_) (λ nD=> ?_)
  ·obtain ⟨df,cJ,fD,eV,qJ,hx⟩:=dr.L.at_ (k:=j) (by omega);obtain ⟨w4,pL,YG,Ik,av2,aH⟩:=agw.at_ (k:=j) (by omega);obtain rfl:fD=YG:=aUh (qJ.symm.trans av2);refine bt<|az<|bA<|ai<|vm Z<|J (bY j underlying29 uy Z Z ((dr.T.keep gw).bu (aX j)) Z (by omega))<|J (v:= .slice df fD.length cJ) (ak Z (κ.aK.fu Dh ((dr.T.keep gw).cr (aX j)) eV Z kL))<|va Z<|va Z<|ag<|rg<|vm Z<|vm Z<|iV Z Z Z<|vm Z<|iV Z Z Z<|J (ak Z (n3.one qE Z))<|iV Z Z Z<|vm Z<|iV Z Z Z<|J (bY j underlying29 uy Z Z ((aV.keep gw).bu (aX j)) Z (by omega))<| ?_;refine iV Z Z Z<|J (v:= .slice w4 fD.length pL) (ak Z (κ.aK.fu Dh ((aV.keep gw).cr (aX j)) Ik Z kL))<|iV Z Z Z<|ca aft Z Z ((afI _ _ _ _ _ _ fD _ (hx.keep gw) (aH.keep gw)).mono ?_);rintro e JK ⟨rfl,kf⟩;refine ⟨_,Z, ?_⟩;have:=kf.size;have qq:=τ gw kf;refine J (na Z Z)<|va Z<|nl<|bX<|aT<|rg<|J (bad Z Z (bH (by omega)))<|vm Z<|nl<| ?_;have n3:=n3.later kf;exact cO _ _ ⟨j+1,Z,Z,qq,n3,by omega⟩ (by omega) (.cons Z (.cons Z (.cons Z (.cons Z (.cons Z (.cons (bO Z) .nil))))))
  ·refine c_<|c9<|dn<|c8<|aT<|ai<|vm Z<|va Z<|ag<|rt<|bb (.tmp Z .nil)<| ?_;exact ⟨Z,gw⟩
end
end Go.Proofs.YtlikikpgmmkjbaaGreat
