import Derived.Test.YtlikikpgmmkjbaaGreatOrT
set_option linter.unusedVariables false
set_option linter.unusedSimpArgs false
set_option maxRecDepth 100000
set_option maxHeartbeats 4000000
open Go.RowKit
namespace Go.Proofs.YtlikikpgmmkjbaaGreat
open Tryz
section
open Go.Proofs.YtlikikpgmmkjbaaGreat.eV
theorem akl {by_:Nat} {w:World} {A:Option Addr} {c:Nat} {l:List ByteArray} (h:jW.aI by_ w A c l):∀ s∈l,s.size≤140737488351232:=τ.aI.zL (R:=jW) (Q:=λ s:ByteArray=>s.size≤140737488351232) (fun {w cs a} (h:jW.has w cs a)=>(show cs= [.string a]∧a.size≤140737488351232 from h).2) h
def Bd (W:ag) (ls:List ByteArray) (k:Nat) (V:ag) (M:List (List aN)):Prop:=M.length=k∧ls.take k=M.map hk∧(∀ m∈M,hi m=0∧(∀ o∈m,o.ok)∧x9 (hk m) m 0)∧h5 W M=0∧V=lH W M
theorem Bd.start {W V:ag} {ls:List ByteArray} (h:V=lH W []):Bd W ls 0 V []:=⟨rfl,rfl,λ m h=>by simp at h,rfl,h⟩
theorem Bd.next {W V:ag} {ls:List ByteArray} {k:Nat} {M:List (List aN)} {m:List aN} {s:ByteArray} (h:Bd W ls k V M) (aM:ls[k]? =some s) (γ:hi m=0) (ab:hk m=s) (aw:∀ o∈m,o.ok) {Hi:Int} (hR:x9 s m Hi) (av:Hi=0) (aX:gX V m=0):Bd W ls (k+1) (ld V m) (M++ [m]):=by
 obtain ⟨a,b,c,d,e⟩:=h;refine ⟨by rw [aQU,a];rfl, ?_, ?_, ?_, ?_⟩
 ·rw [aRc,← b,List.map_singleton,ab];exact CL aM
 ·intro m' VY;rcases aQ0.1 VY with h | h
  ·exact c m' h
  ·rw [aQJ.1 h];refine ⟨γ,aw, ?_⟩;rw [ab,← av];exact hR
 ·rw [QS,aQV (by rw [d];simp),XO,← e];exact aX
 ·rw [ajE,← e];rfl
def Sk (W:ag) (ls:List ByteArray) (V:ag) (k:Nat):Prop:=k≤ls.length∧∃ M,Bd W ls k V M∧(k=ls.length∨∀ m,hi m=0→(∀ o∈m,o.ok)→ls[k]? =some (hk m)→gX V m≠0)
theorem aD8 {l m:List aN} (h:hi l=0) (ea:∀ o∈l,o.ok) (hR:x9 (hk m) m 0) (he:hk l=hk m):l=m:=(Xn h ea (by rw [he];exact hR)).2.symm
theorem YO:∀ {L M:List (List aN)},(∀ m∈L,hi m=0∧∀ o∈m,o.ok)→(∀ m∈M,x9 (hk m) m 0)→L.map hk=M.map hk→L=M
 | [], [],_,_,_=>rfl
 | [],_::_,_,_,h=>by simp at h
 | _::_, [],_,_,h=>by simp at h
 | l::L,m::M,γ,ab,h=>by
  rw [aRw,aRw] at h;obtain ⟨a_,bh⟩:=aVk h;rw [aD8 (γ l (aRa)).1 (γ l (aRa)).2 (ab m (aRa)) a_,YO (λ x hx=>γ x (aQ1 _ hx)) (λ x hx=>ab x (aQ1 _ hx)) bh]
theorem ad0 {W V:ag} {L:List (List aN)} {k:Nat} (h:Sk W (L.map hk) V k) (j6:∀ m∈L,hi m=0∧∀ o∈m,o.ok) (hr:h5 W L=0):k=L.length∧V=lH W L:=by
 obtain ⟨av,M,⟨a,b,c,d,e⟩,hs⟩:=h;rw [aRz] at av hs;have mi:L.take k=M:=YO (λ m hm=>j6 m (aSj hm)) (λ m hm=>(c m hm).2.2) (by rw [← b,aS5]);rcases hs with hs | hs
 ·rw [hs,aRC] at mi;exact ⟨hs,by rw [e,mi]⟩
 ·rcases aRG k L.length with bA | qj
  ·have aM:L[k]? =some L[k]:=aQN bA;have γ:=j6 _ (aRO bA);refine absurd ?_ (hs L[k] γ.1 γ.2 (by rw [aQ4,aM];rfl));have ab:h5 W (L.take k)=0:=aRX λ aF=>HU aF hr;have aw:h5 W (L.take (k+1))=0:=aRX λ aF=>HU aF hr;rw [QT ab aM] at aw;rw [e,← mi];exact aw
  ·have:k=L.length:=by omega
   rw [this,aRC] at mi;exact ⟨this,by rw [e,mi]⟩
def zm (W:ag) (ls:List ByteArray) (e:Int) (V:ag) (k:Nat):Prop:=(e=0∧(ls.length≤200∧W.bn=0)∧Sk W ls V k)∨(e≠0∧¬(ls.length≤200∧W.bn=0)∧V=ag.zero∧k=0)
theorem auT (a:ag.cc) (W:ag) (A:Option Addr) (c:Nat) (ls:List ByteArray) (w:World) (bP:ag.Has w a W) (az:jW.aI 16 w A c ls):
  Calls prog 33 #[.agg ((ag.cells a W).toArray), .slice A ls.length c] w (λ e w'=>∃ (e':Int) (k:Nat) (a':ag.cc) (V:ag),e= .returned (.tuple #[.agg (ag.cells a' V).toArray, .int .i64 (k:Int), .int .i64 e'])∧zm W ls e' V k∧bq w' w.heap.size a' V∧Ext w w'):=by
 have pD:=az.d_;refine cd (n:=61) func33 Z Z Z ?_;refine aj<|cB Z Z Z Z λ cO bJ ba eb aa=> ?_;have:=ba.size;have bk:=κ (Ext.bI w) ba;have eh:=aa.lt;refine al Z mh Z Z λ eA cC bm hT ah=> ?_;have:=bm.size;have bO:=κ bk bm;have hI:=ah.lt;refine va Z<|va Z<|ai<|aB<|aj<|vm Z<|J (cu underlying72 Z)<|J (iu Z Z)<|ai<| ?_;refine ef Z (λ ib=> ?_) (λ ib=> ?_)
 ·refine aj<|J (v:= .agg #[.int .i64 0, .int .i64 0, .slice none 0 0, .slice none 0 0, .slice none 0 0, .slice none 0 0, .slice none 0 0, .int .i64 0, .int .i64 0]) (cG Z (by kernel_rfl))<|st (new:= [.int .i64 0, .int .i64 0, .slice none 0 0, .slice none 0 0, .slice none 0 0, .slice none 0 0, .slice none 0 0, .int .i64 0, .int .i64 0]) Z Z ah Z b3 Z Z Z λ xw pI ah=> ?_;have:=pI.size;have kj:=Ext.mod bO pI bw;refine va Z<|va Z<|ai<|rt<|bN<|bb (.cell Z (ah.all c7 b3) (.tmp Z (.tmp Z .nil)))<| ?_;exact ⟨2,0,⟨none,none,none,none,none,0,0,0,0,0⟩,ag.zero,Z, .inr ⟨(by decide),(λ bf=>by omega),Z,Z⟩,bq.zero _ _,kj⟩
 ·have ox:ls.length≤200:=by omega
  refine bs<|aj<| ?_;have aa:=aa.later bm;refine J (ao Z (aa.all c7 b3))<|ca JJ Z Z ((L4 a W _ _ ([]:List gP) ([]) _ (bP.keep bO) (τ.aI.nil _) p_.nil).mono ?_);rintro e qv ⟨Z1,a20,anS,Ix,aoG,aMn,rfl,af9,rZ,aap,Kr,cp⟩;refine ⟨_,Z, ?_⟩;have:=cp.size;have ht:=κ bO cp;have akK:=λ q I=>(rZ.lt q I).2;have EH:=λ q I=>(rZ.lt q I).1;have Fb:=λ q I=>(aap.lt q I).2;have Lu:=λ q I=>(aap.lt q I).1;have ap6:∀ q∈τ.ae Ix,q∈bq.b_ a20→False:=Kr;have aqQ:∀ q∈bq.b_ a20,q∈τ.ae Ix→False:=λ q γ ab=>Kr q ab γ;refine vm Z<|J (ex Z Z)<|J (ex Z Z)<|J (ex Z Z)<| ?_;have aa:=aa.later cp;refine st Z Z aa Z b3 Z Z Z λ AR nQ aa=> ?_;have:=nQ.size;have kZ:=Ext.mod ht nQ bw;refine va Z<|va Z<|ai<|aB<|aj<|vm Z<|J (bne Z Z)<|ai<| ?_;refine eH Z (λ nK=> ?_) (λ nK=> ?_)
  ·refine aj<|J (v:= .agg #[.int .i64 0, .int .i64 0, .slice none 0 0, .slice none 0 0, .slice none 0 0, .slice none 0 0, .slice none 0 0, .int .i64 0, .int .i64 0]) (cG Z (by kernel_rfl))<|vm Z<| ?_;have ah:=ah.later cp;have ah:=ah.mod nQ aR;refine st (new:= [.int .i64 0, .int .i64 0, .slice none 0 0, .slice none 0 0, .slice none 0 0, .slice none 0 0, .slice none 0 0, .int .i64 0, .int .i64 0]) Z Z ah Z b3 Z Z Z λ Fi Az ah=> ?_;have:=Az.size;have uB:=Ext.mod kZ Az bw;refine va Z<|va Z<|ai<|rt<|bN<|bb (.cell Z (ah.all c7 b3) (.tmp Z (.tmp Z .nil)))<| ?_;exact ⟨Z1,0,⟨none,none,none,none,none,0,0,0,0,0⟩,ag.zero,Z, .inr ⟨(by simpa using nK),(λ bf=>(show ¬ Z1=0 by simpa using nK) (af9.Q2.2 ⟨by simp,bf.2,rfl⟩)),Z,Z⟩,bq.zero _ _,uB⟩
  ·obtain ⟨_,lY,_,yw,_⟩:=af9.ok (by simpa using nK);refine bs<|aB<|aj<|vm Z<|J (cu underlying72 Z)<|vm Z<|ai<|bR<| ?_;have rZ:=rZ.mod nQ (bz EH);have ah:=ah.later cp;have ah:=ah.mod nQ aR;refine fg (λ cm cl a6=>∃ k:Nat,∃ oi:ag.cc,∃ kn:ag,∃ M:List (List aN),cl= [(1, .slice A ls.length c),(2, .pointer (some ⟨bJ,0,none⟩)),(4, .pointer (some ⟨cC,0,none⟩)),(29, .slice A ls.length c),(30, .int .i64 (ls.length:Int)),(31, .int .i64 (k:Int))]∧cm=ls.length - k∧Ext w a6∧aQ a6 cC [.int .i64 0, .int .i64 0, .slice none 0 0, .slice none 0 0, .slice none 0 0, .slice none 0 0, .slice none 0 0, .int .i64 0, .int .i64 0] 28 (0,0)∧aQ a6 bJ (ag.cells oi kn) 28 (0,0)∧bq a6 w.heap.size oi kn∧(k≤ls.length)∧(Bd W ls k kn M)∧(∀ q∈bq.b_ oi,q=bJ→False)∧(∀ q∈bq.b_ oi,q=cC→False)) _ _ ⟨0,a20,anS, [],Z,Z,kZ,ah,aa,(rZ.down (by omega)),by omega,Bd.start yw,(λ q I Φ=>by exfalso;(have:=EH q I;omega)),(λ q I Φ=>by exfalso;(have:=EH q I;omega))⟩ (.cons Z (.cons Z (.cons Z (.cons Z (.cons Z (.cons (b2 Z (by first | omega | rfl | (simp<;>omega))) .nil)))))) ?_;rintro tV amu AT ⟨k,oi,kn,M,rfl,rfl,kF,ah,cU,fY,av,kP,apN,TA⟩;have:=kF.size;have aAC:=ah.lt;have Xx:=cU.lt;have H5:=λ q I=>(fY.lt q I).2;refine aj<|J (blt Z Z)<|ai<|aB<| ?_;refine ef Z (λ Kd=> ?_) (λ Kd=> ?_)
   ·have VO:ls[k]? =some (ls.getD k ByteArray.empty):=df (by omega);refine bs<|aB<|bR<|aj<|vm Z<|J (b5 k underlying72 Gv Z Z ((az.keep kF).bL (a7 k)) Z (by omega))<|J (ao Z (τ.aI.fB Pv ((az.keep kF).cA (a7 k)) (df (l:=ls) (u:=ByteArray.empty) (by omega)) Z T5))<|va Z<|va Z<|ai<|aj<|vm Z<|ca ar3 Z Z ((azz (ls.getD k ByteArray.empty) _ (akl az _ (jj (by omega)))).mono ?_);rintro e Mt ⟨jv,P',aFv,abW,Pj,rfl,ND,iR⟩;refine ⟨_,Z, ?_⟩;have:=iR.size;have p1:=κ kF iR;have aCY:=λ q I=>(ND.lt q I).2;have aL1:=λ q I=>(ND.lt q I).1;have awf:=aAS Pj;have avS:∀ o∈jv,o.ok:=aN.oh ND.has;refine vm Z<|J (ex Z Z)<|J (ex Z Z)<|va Z<|va Z<|ai<|aB<|aj<|vm Z<|J (bne Z Z)<|ai<| ?_;refine eH Z (λ wR=> ?_) (λ wR=> ?_)
    ·refine aj<| ?_;have cU:=cU.later iR;refine J (ao Z (cU.all c7 b3))<|vm Z<| ?_;have ah:=ah.later iR;refine st Z Z ah Z b3 Z Z Z λ C1 fW ah=> ?_;have:=fW.size;have mJ:=Ext.mod p1 fW bw;refine va Z<|va Z<|ai<|rt<|bN<|ej<|bN<|lK<|ej<|bN<|bb (.cell Z (ah.all c7 b3) (.tmp Z (.tmp Z .nil)))<| ?_;have fY:=fY.later iR;have fY:=fY.mod fW (λ q I h=>by have Φ:=aQJ.1 h;exfalso;(exact TA q I Φ));exact ⟨0,k,oi,kn,Z, .inl ⟨Z,⟨ox,lY⟩,⟨by omega,M,kP, .inr λ m γ ab aw=>by rw [VO] at aw;have UU:=aQL aw;have UW:=(Xn γ ab (by rw [← UU];exact Pj)).1;exact absurd UW (by simpa using wR)⟩⟩,fY,mJ⟩
    ·have pz:P'=0:=by simpa using wR
     obtain ⟨mo,Wk⟩:=awf.1 pz;refine bs<|aj<| ?_;have cU:=cU.later iR;refine J (ao Z (cU.all c7 b3))<|vm Z<| ?_;have fY:=fY.later iR;refine ca TY Z Z ((Mh oi kn _ _ jv _ fY.has ND.has).mono ?_);rintro e Ib ⟨wx,R2,aoI,R3,aoJ,R4,aoK,rfl,nA,aas,aat,aau,G1,iA⟩;refine ⟨_,Z, ?_⟩;have:=iA.size;have p2:=κ p1 iA;have AP:=λ q I=>(nA.lt q I).2;have Hl:=λ q I=>(nA.lt q I).1;have AQ:=λ q I=>(aas.lt q I).2;have Cr:=λ q I=>(aas.lt q I).1;have Fe:=λ q I=>(aat.lt q I).2;have aia:=λ q I=>(aat.lt q I).1;have Rj:=λ q I=>(aau.lt q I).2;have sm:=λ q I=>(aau.lt q I).1;have aqa:∀ q∈τ.ae R2,q∈bq.b_ wx→False:=λ q I=>G1 q (.inl I);have aIs:∀ q∈bq.b_ wx,q∈τ.ae R2→False:=λ q γ ab=>aqa q ab γ;have aqb:∀ q∈τ.ae R3,q∈bq.b_ wx→False:=λ q I=>G1 q (.inr (.inl I));have aIt:∀ q∈bq.b_ wx,q∈τ.ae R3→False:=λ q γ ab=>aqb q ab γ;have aqc:∀ q∈τ.ae R4,q∈bq.b_ wx→False:=λ q I=>G1 q (.inr (.inr I));have aIu:∀ q∈bq.b_ wx,q∈τ.ae R4→False:=λ q γ ab=>aqc q ab γ;refine vm Z<|J (ex Z Z)<|J (ex Z Z)<|J (ex Z Z)<|al Z mh Z Z λ alf aHr hq aLI Ba=> ?_;have:=hq.size;have MW:=κ p2 hq;have aOc:=Ba.lt;refine al Z Gt Z Z λ Fp aoi ik axH ny=> ?_;have:=ik.size;have xN:=κ MW ik;have aAL:=ny.lt;have Ba:=Ba.later ik;refine st Z Z Ba Z b3 Z Z Z λ aDU ig Ba=> ?_;have:=ig.size;have Iv:=Ext.mod xN ig bw;have ny:=ny.mod ig aR;refine st (new:= [.slice R2 ((xr kn jv).length) aoI, .slice R3 ((xt kn jv).length) aoJ, .slice R4 ((y1 kn jv).length) aoK]) Z Z ny Z zV Z Z Z λ RF k9 ny=> ?_;have:=k9.size;have zd:=Ext.mod Iv k9 bw;refine va Z<|ai<|aB<|aj<|vm Z<|J (bne Z Z)<|ai<| ?_;refine eH Z (λ Ei=> ?_) (λ Ei=> ?_)
     ·refine aj<| ?_;have cU:=cU.later (κ iA (κ hq ik));have cU:=cU.mod ig aR;have cU:=cU.mod k9 aR;refine J (ao Z (cU.all c7 b3))<|vm Z<| ?_;have ah:=ah.later (κ iR (κ iA (κ hq ik)));have ah:=ah.mod ig aR;have ah:=ah.mod k9 aR;refine st Z Z ah Z b3 Z Z Z λ YG tX ah=> ?_;have:=tX.size;have FM:=Ext.mod zd tX bw;refine va Z<|va Z<|ai<|rt<|bN<|ej<|bN<|lK<|ej<|bN<|bb (.cell Z (ah.all c7 b3) (.tmp Z (.tmp Z .nil)))<| ?_;have fY:=fY.later (κ iA (κ hq ik));have fY:=fY.mod ig (b0 H5);have fY:=fY.mod k9 (b0 H5);have fY:=fY.mod tX (λ q I h=>by have Φ:=aQJ.1 h;exfalso;(exact TA q I Φ));exact ⟨0,k,oi,kn,Z, .inl ⟨Z,⟨ox,lY⟩,⟨by omega,M,kP, .inr λ m γ ab aw=>by rw [VO] at aw;have UU:=aQL aw;have UW:=(Xn γ ab (by rw [← UU];exact Pj)).2;rw [← UW];simpa using Ei⟩⟩,fY,FM⟩
     ·have Ez:gX kn jv=0:=by simpa using Ei
      refine bs<|rg<| ?_;have Ba:=Ba.mod k9 aR;refine J (ao Z (Ba.all c7 b3))<| ?_;have cU:=cU.later (κ iA (κ hq ik));have cU:=cU.mod ig aR;have cU:=cU.mod k9 aR;refine st Z Z cU Z b3 Z Z Z λ YI mA cU=> ?_;have:=mA.size;have FO:=Ext.mod zd mA bw;refine nl<|bX<|aV<|rg<|J (bad Z Z (bG (by omega)))<|vm Z<|nl<| ?_;have ah:=ah.later (κ iR (κ iA (κ hq ik)));have ah:=ah.mod ig aR;have ah:=ah.mod k9 aR;have ah:=ah.mod mA aR;have fY:=fY.later (κ iA (κ hq ik));have fY:=fY.mod ig (b0 H5);have fY:=fY.mod k9 (b0 H5);have fY:=fY.mod mA (λ q I h=>by have Φ:=aQJ.1 h;exfalso;(exact apN q I Φ));have nA:=nA.later (κ hq ik);have nA:=nA.mod ig (b0 AP);have nA:=nA.mod k9 (b0 AP);have nA:=nA.mod mA (bz Hl);exact c' _ _ ⟨k+1,wx,ld kn jv,M++ [jv],Z,Z,FO,ah,cU,(nA.down (by omega)),by omega,kP.next VO mo Wk avS Pj pz Ez,(λ q I Φ=>by exfalso;(have:=Hl q I;omega)),(λ q I Φ=>by exfalso;(have:=Hl q I;omega))⟩ (by omega) (.cons Z (.cons Z (.cons Z (.cons Z (.cons Z (.cons (b2 Z (by first | omega | rfl | (simp<;>omega))) .nil))))))
   ·refine dN<|dL<|ed<|dK<|aV<|aj<|J (ao Z (cU.all c7 b3))<|vm Z<|J (cu underlying72 Z)<|st Z Z ah Z b3 Z Z Z λ MC w_ ah=> ?_;have:=w_.size;have qH:=Ext.mod kF w_ bw;refine va Z<|va Z<|ai<|rt<|bb (.cell Z (ah.all c7 b3) (.tmp Z (.tmp Z .nil)))<| ?_;have fY:=fY.mod w_ (λ q I h=>by have Φ:=aQJ.1 h;exfalso;(exact TA q I Φ));exact ⟨0,ls.length,oi,kn,Z, .inl ⟨Z,⟨ox,lY⟩,⟨aQW _,M,(by rw [show ls.length=k by omega];exact kP), .inl Z⟩⟩,fY,qH⟩
theorem Ky (a:ag.cc) (W:ag) (A:Option Addr) (c:Nat) (ls:List ByteArray) (n:Nat) (w:World) (hn:ls.length=n) (bP:ag.Has w a W) (az:jW.aI 16 w A c ls):Calls prog 33 #[.agg (ag.cells a W).toArray, .slice A n c] w (λ e w'=>∃ (e':Int) (k:Nat) (a':ag.cc) (V:ag),e= .returned (.tuple #[.agg (ag.cells a' V).toArray, .int .i64 (k:Int), .int .i64 e'])∧zm W ls e' V k∧bq w' w.heap.size a' V∧Ext w w'):=by
 subst hn;exact auT a W A c ls w bP az
end
section
open Go.Proofs.YtlikikpgmmkjbaaGreat.eV
theorem aqt {x vJ:dG} {c:oY} {e:Int} {s:ByteArray} (h:Ni x c e s vJ):s.size≤140737488351232:=by
 have aF:(ByteArray.empty).size≤140737488351232:=by decide
 rcases h with ⟨_,_,_,rfl⟩ | ⟨_,_,_,rfl⟩
 ·unfold JD;split
  ·exact alv _
  ·exact aF
 ·exact aF
def aj5:dG:=CA kC 5
def aOv:oY:=⟨1,⟨0,3,1,⟨2,0⟩,0⟩,0,0⟩
def Mc:dG:= {aj5 with S:= [⟨np,0,false⟩]}
theorem aj8:uP kC []:=⟨by decide,by decide +kernel,rfl⟩
theorem aj6:Dw aj5:=⟨aj8,⟨by decide,by decide,λ i s h=>by
 match i,h with
 | 0,h=>obtain rfl:=aQL h;exact ⟨by decide,by decide⟩⟩,⟨Z,by decide +kernel⟩,by decide,by decide,by decide,λ i s h=>by
 match i,h with
 | 0,h=>obtain rfl:=aQL h;rfl⟩
theorem aBJ:Dw Mc:=⟨aj8,⟨by decide,by decide,λ i s h=>by
 match i,h with
 | 0,h=>obtain rfl:=aQL h;exact ⟨by decide,by decide +kernel⟩⟩,⟨Z,by decide +kernel⟩,by decide,by decide,by decide,λ i s h=>by
 match i,h with
 | 0,h=>obtain rfl:=aQL h;rfl⟩
theorem X3:uX Mc.hh.toNat Mc.S=([⟨[],0,false⟩],np):=by decide +kernel
theorem aBK:Jh Mc:=by
 unfold Jh;rw [X3];exact ⟨by decide,Yg.1⟩
theorem ax1 {a_ bh cD jr:Int} {e2 ft jl:dG} {s2 L6:ByteArray} {V:ag} {k:Nat} (γ:aan kC 5 a_ e2) (ab:Ni e2 ⟨1,⟨0,3,1,⟨2,0⟩,0⟩,0,0⟩ bh s2 ft) (aw:Ni ft ⟨2,⟨0,0,0,⟨0,0⟩,0⟩,0,0⟩ cD L6 jl) (aX:zm kC [L6] jr V k):
  a_=0∧bh=0∧cD=0∧jr=0∧k=1∧jl.L.length=1∧V=Yc:=by
 obtain ⟨cj,_,rfl⟩:=γ.resolve_right λ h=>h.2.1 ⟨by decide +kernel,by decide,by decide⟩;obtain ⟨a2,_,a3,_⟩:=ab.resolve_right λ h=>h.2.1 ⟨aj6, .inl ⟨rfl,aj6.2.1,by decide +kernel,⟨[],0,false⟩,rfl,rfl,by decide⟩⟩;have a4:ft=Mc:=by rw [a3,acZ rfl];rfl
 subst a4;obtain ⟨a5,_,Gc,NQ⟩:=aw.resolve_right λ h=>h.2.1 ⟨aBJ, .inr (.inl ⟨rfl,aBK⟩)⟩;rw [ac0 rfl] at Gc;rw [ac1 rfl,X3] at NQ;obtain ⟨Jj,_,a9⟩:=aX.resolve_right λ h=>h.2.1 ⟨by simp,by decide +kernel⟩;have j6:∀ m∈ [np],hi m=0∧∀ o∈m,o.ok:=λ m hm=>by
  rw [aQJ.1 hm];exact ⟨by decide +kernel,λ o b1=>by rw [aQJ.1 b1];exact ⟨bM.2 (by decide),bM.2 (by decide),bM.2 (by decide),bM.2 (by decide),bM.2 (by decide),bM.2 (by decide)⟩⟩
 rw [NQ] at a9;obtain ⟨ko,eZ⟩:=ad0 (L:= [np]) a9 j6 (by rw [XO];exact Yg.1);exact ⟨cj,a2,a5,Jj,ko,by rw [Gc];unfold Mb;rw [X3];rfl,by rw [eZ];exact Yg.2.1⟩
theorem afY  (w:World):
  Calls prog 34 #[] w (λ e w'=>e= .returned (.bool true)∧Ext w w'):=by
 refine cd (n:=78) func34 Z Z Z ?_;refine aj<|va Z<|ai<|aj<|ca adx Z Z ((aj7 _).mono ?_);rintro e alc ⟨anY,rfl,Ss,nu⟩;refine ⟨_,Z, ?_⟩;have:=nu.size;have MT:=κ (Ext.bI w) nu;have Yk:=λ q I=>(Ss.lt q I).2;have Qk:=λ q I=>(Ss.lt q I).1;refine ca ar4 Z Z ((avM anY kC 5 _ Ss.has).mono ?_);rintro e eA ⟨aFI,d',sK,rfl,av9,Dy,cF⟩;refine ⟨_,Z, ?_⟩;have:=cF.size;have bO:=κ MT cF;have aCG:=λ q I=>(Dy.lt q I).2;have aKN:=λ q I=>(Dy.lt q I).1;refine vm Z<|J (ex Z Z)<|J (ex Z Z)<|al Z JN Z Z λ uj yb dm Lq fS=> ?_;have:=dm.size;have jB:=κ bO dm;have QL:=fS.lt;refine st Z Z fS Z fQ Z Z Z λ uk rz fS=> ?_;have:=rz.size;have hY:=Ext.mod jB rz bw;refine va Z<|ai<|aj<|J (ao Z (fS.all j2 fQ))<|J (v:= .agg #[.int .i64 2, .int .i64 0]) (cG Z (by kernel_rfl))<|J (v:= .agg #[.int .i64 0, .int .i64 3, .int .i64 1, .int .i64 2, .int .i64 0, .int .i64 0]) (cG Z (by kernel_rfl))<|J (v:= .agg #[.int .i64 1, .int .i64 0, .int .i64 3, .int .i64 1, .int .i64 2, .int .i64 0, .int .i64 0, .int .i64 0, .int .i64 0]) (cG Z (by kernel_rfl))<| ?_;have Dy:=Dy.later dm;have Dy:=Dy.mod rz (b0 aCG);refine ca ady Z Z ((afh d' sK (⟨1,⟨0,3,1,⟨2,0⟩,0⟩,0,0⟩:oY) _ Dy.has ⟨bM.2 (by decide),bM.2 (by decide),bM.2 (by decide),bM.2 (by decide),bM.2 (by decide),bM.2 (by decide)⟩).mono ?_);rintro e CZ ⟨aFF,aOt,fH,aEa,rfl,av7,c6,et⟩;refine ⟨_,Z, ?_⟩;have:=et.size;have ll:=κ hY et;have uf:=λ q I=>(c6.lt q I).2;have w8:=λ q I=>(c6.lt q I).1;refine vm Z<|J (ex Z Z)<|J (ex Z Z)<|J (ex Z Z)<| ?_;have fS:=fS.later et;refine st Z Z fS Z fQ Z Z Z λ C0 hU fS=> ?_;have:=hU.size;have rP:=Ext.mod ll hU bw;refine va Z<|va Z<|ai<|aj<|J (ao Z (fS.all j2 fQ))<|J (v:= .agg #[.int .i64 2, .int .i64 0, .int .i64 0, .int .i64 0, .int .i64 0, .int .i64 0, .int .i64 0, .int .i64 0, .int .i64 0]) (cG Z (by kernel_rfl))<| ?_;have c6:=c6.mod hU (λ q I h=>by have Φ:=aQJ.1 h;exfalso;(have:=w8 q I;omega));refine ca ady Z Z ((afh fH aEa (⟨2,⟨0,0,0,⟨0,0⟩,0⟩,0,0⟩:oY) _ c6.has ⟨bM.2 (by decide),bM.2 (by decide),bM.2 (by decide),bM.2 (by decide),bM.2 (by decide),bM.2 (by decide)⟩).mono ?_);rintro e um ⟨Se,QU,atB,aQE,rfl,aga,Su,c_⟩;refine ⟨_,Z, ?_⟩;have:=c_.size;have iT:=κ rP c_;have aOK:=λ q I=>(Su.lt q I).2;have aKM:=λ q I=>(Su.lt q I).1;refine vm Z<|J (ex Z Z)<|J (ex Z Z)<|J (ex Z Z)<| ?_;have fS:=fS.later c_;refine st Z Z fS Z fQ Z Z Z λ Fj jT fS=> ?_;have:=jT.size;have qC:=Ext.mod iT jT bw;refine va Z<|va Z<|ai<|aj<|ca adx Z Z ((aj7 _).mono ?_);rintro e Mr ⟨anZ,rfl,I0,A3⟩;refine ⟨_,Z, ?_⟩;have:=A3.size;have qE:=κ qC A3;have aCV:=λ q I=>(I0.lt q I).2;have WO:=λ q I=>(I0.lt q I).1;refine vm Z<|cX (e:= 9) (cs:= [.string QU]) Z (λ _=>by kernel_rfl) Z λ Rx aHk n4 aLz ZO=> ?_;have:=n4.size;have qF:=κ qE n4;have aN3:=ZO.lt;have I0:=I0.later n4;refine ca JO Z Z ((Ky anZ kC _ _ ([QU]) 1 _ (by simp) I0.has (aQ.Kk (R:=jW) (by_:=16) (k:= [QU]) ZO [[.string QU]] Z (⟨⟨Z,(aqt aga)⟩,trivial⟩) (by simp) (by simp))).mono ?_);rintro e ald ⟨Z2,aKs,a51,anT,rfl,PW,Bg,vN⟩;refine ⟨_,Z, ?_⟩;have:=vN.size;have MU:=κ qF vN;have akN:=λ q I=>(Bg.lt q I).2;have WQ:=λ q I=>(Bg.lt q I).1;refine vm Z<|J (ex Z Z)<|J (ex Z Z)<|J (ex Z Z)<|al Z mh Z Z λ pW aHo kX aLF ID=> ?_;have:=kX.size;have hy:=κ MU kX;have aAI:=ID.lt;refine st Z Z ID Z b3 Z Z Z λ RB nd ID=> ?_;have:=nd.size;have rT:=Ext.mod hy nd bw;refine va Z<|va Z<|ai<|aj<|vm Z<|J (beq Z Z)<|vm Z<|aO Z Z Z Z (λ hc=>aH Z) Z<|aO Z Z Z Z (λ hc=>beq (gt hc Z) Z) Z<|J (di Z Z Z Z)<|vm Z<|aO Z Z Z Z (λ hc=>aH Z) Z<|aO Z Z Z Z (λ hc=>beq (gt hc Z) Z) Z<|J (di Z Z Z Z)<|vm Z<|aO Z Z Z Z (λ hc=>aH Z) Z<|aO Z Z Z Z (λ hc=>beq (gt hc Z) Z) Z<|J (di Z Z Z Z)<|vm Z<|aO Z Z Z Z (λ hc=>aH Z) Z<|aO Z Z Z Z (λ hc=>beq (gt hc Z) Z) Z<|J (di Z Z Z Z)<| ?_;refine vm Z<|aO Z Z Z Z (λ hc=>au zX Z) Z<|aO Z Z Z Z (λ hc=>au u2 (gt hc Z)) Z<| ?_;have fS:=fS.later (κ A3 (κ n4 (κ vN kX)));have fS:=fS.mod nd aR;refine aO Z Z Z Z (λ hc=>ao (gt hc Z) (fS.one zW Z)) Z<|aO Z Z Z Z (λ hc=>cu underlying29 (gt hc Z)) Z<|aO Z Z Z Z (λ hc=>beq (gt hc Z) Z) Z<|J (di Z Z Z Z)<|vm Z<|aO Z Z Z Z (λ hc=>au jL Z) Z<|aO Z Z Z Z (λ hc=>ao (gt hc Z) (ID.one lr Z)) Z<|aO Z Z Z Z (λ hc=>cu underlying26 (gt hc Z)) Z<|aO Z Z Z Z (λ hc=>beq (gt hc Z) Z) Z<|J (di Z Z Z Z)<|vm Z<|aO Z Z Z Z (λ hc=>au jL Z) Z<|aO Z Z Z Z (λ hc=>ao (gt hc Z) (ID.one lr Z)) Z<| ?_;have Bg:=Bg.later kX;have Bg:=Bg.mod nd (b0 akN);refine aO Z Z Z Z (λ hc=>b5 0 underlying26 j3 (gt hc Z) Z (Bg.T.has.bL (a7 0 (by have:=hc;simp only [aQT,aRK,aUG] at this;omega))) Z (by have:=hc;simp only [aQT,aRK,aUG] at this;omega)) Z<|aO Z Z Z Z (λ hc=>au zU (gt hc Z)) Z<|aO Z Z Z Z (λ hc=>ao (gt hc Z) (τ.aI.jN jf (Bg.T.has.cA (a7 0 (by have:=hc;simp only [aQT,aRK,aUG] at this;omega))) 6 (df (l:=anT.ak) (u:=default) (j:=0) (by have:=hc;simp only [aQT,aRK,aUG] at this;omega)) Z bd)) Z<|aO Z Z Z Z (λ hc=>beq (gt hc Z) Z) Z<|J (di Z Z Z Z)<|va Z<|ai<|rt<|bb (.tmp Z .nil)<| ?_;obtain ⟨f1,f2,f3,f4,f5,f6,f7⟩:=ax1 av9 av7 aga PW;have f8:atB.T.length=1:=by have:=Su.L.1;omega
 exact ⟨L2 (by rw [f7];simp [f1,f2,f3,f4,f5,f8];decide),rT⟩
end
section
structure F8 where
 YM:Int
 XX:List ByteArray
 base:Int
 next:Int
 way:List Int
 SY:List Int
 got:List ByteArray
 held:List Int
 deriving DecidableEq,Inhabited
namespace F8
structure cc where
 S:Option Addr
 W:Option Addr
 K:Option Addr
 G:Option Addr
 H:Option Addr
 s:Nat
 w:Nat
 k:Nat
 g:Nat
 h:Nat
def cells (a:cc) (L:F8):List Value:= [.int .i64 L.YM, .slice a.S L.XX.length a.s, .int .i64 L.base, .int .i64 L.next, .slice a.W L.way.length a.w, .slice a.K L.SY.length a.k, .slice a.G L.got.length a.g, .slice a.H L.held.length a.h]
structure Has (w:World) (a:cc) (L:F8):Prop where
 S:jW.aI 16 w a.S a.s L.XX
 W:bK.aI 8 w a.W a.w L.way
 K:bK.aI 8 w a.K a.k L.SY
 G:jW.aI 16 w a.G a.g L.got
 H:bK.aI 8 w a.H a.h L.held
 nums:eP L.YM∧eP L.base∧eP L.next
def sh:gi:=(.cons (.int .i64) (.cons (.slice .str 16) (.cons (.int .i64) (.cons (.int .i64) (.cons (.slice (.int .i64) 8) (.cons (.slice (.int .i64) 8) (.cons (.slice .str 16) (.cons (.slice (.int .i64) 8) .nil))))))))
end F8
structure aGp (w:World) (aC:Nat) (a:F8.cc) (L:F8):Prop where
 S:jW.aG 9 16 w aC (τ.ae a.S) a.S a.s L.XX
 W:bK.aG 3 8 w aC (τ.ae a.W) a.W a.w L.way
 K:bK.aG 3 8 w aC (τ.ae a.K) a.K a.k L.SY
 G:jW.aG 9 16 w aC (τ.ae a.G) a.G a.g L.got
 H:bK.aG 3 8 w aC (τ.ae a.H) a.H a.h L.held
 aId:∀ q∈τ.ae a.W,q∈τ.ae a.S→False
 aIb:∀ q∈τ.ae a.K,q∈τ.ae a.S→False
 aIc:∀ q∈τ.ae a.K,q∈τ.ae a.W→False
 aH5:∀ q∈τ.ae a.G,q∈τ.ae a.S→False
 aH6:∀ q∈τ.ae a.G,q∈τ.ae a.W→False
 aH4:∀ q∈τ.ae a.G,q∈τ.ae a.K→False
 aH9:∀ q∈τ.ae a.H,q∈τ.ae a.S→False
 aIa:∀ q∈τ.ae a.H,q∈τ.ae a.W→False
 aH8:∀ q∈τ.ae a.H,q∈τ.ae a.K→False
 aH7:∀ q∈τ.ae a.H,q∈τ.ae a.G→False
 nums:eP L.YM∧eP L.base∧eP L.next
def above (aC:Nat) (w:World):List Nat:=(List.range w.heap.size).filter λ q=>decide (aC≤q)
end
section
theorem apC (A:Option Addr) (c:Nat) (l:List ByteArray) (w:World) (h:jW.aI 16 w A c l):
  Calls prog 35 #[.slice A l.length c] w λ e w'=>∃ bH bV,e= .returned (.slice bH l.length bV)∧jW.aG 9 16 w' w.heap.size (τ.ae bH) bH bV l∧(bH=none↔A=none)∧Below w.heap.size w w':=by
 obtain ⟨i0,ar,m_,oz,oA⟩:=aSY awX;have L0:∀ (w:World) (a:Option Addr) (n c h4 bV:Nat),(binOp .eql 72 (.slice a n c) (.slice none h4 bV)).run prog w= .ok (.bool a.isNone) w:=λ w a n c h4 bV=>aSB w _ _ a n c h4 bV underlying72;cases A with
 | none =>
  obtain rfl:c=0:=h.2.2.2.1 rfl;obtain rfl:l= []:=aRd (by have:=h.1;omega);go_enter func35,ntmps35;go_wp2_with fail
  go_ret;exact ⟨none,0,Z,τ.aG.nil _,by simp,aRe _ _⟩
 | some a =>
  have cx:Below w.heap.size w (w.alloc (.cells #[] 9)):=(aRe _ w).alloc (aQW _) _;obtain ⟨n,ew⟩:∃ n,Hid (l.length=n):=⟨_,aQO rfl⟩;obtain ⟨γ,ab,aw,aX,ess,bF,cb⟩:=h.keep cx;have uK:=aQO bF;have mm:∀ u∈ess.flatten,u.oneCell'=true:=by
   intro u hu;obtain ⟨y,aK,hu⟩:=aRV.1 hu;obtain ⟨a,ha⟩:=bF.left y aK;exact jW.one ha u hu
  have nN:∀ (j:Nat) u,ess.flatten[j]? =some u→jW.raw (j % jW.size) u:=λ j u hu=>D' bF (by decide) hu;rw [ew.out] at γ aw cb;have cy:=aQO cb;have il:=aQO (Own.empty (e:= 9) (size:=jW.size) (G:=jW.raw) w (aQW w.heap.size));clear h aX bF cb;rw [ew.out];go_enter func35,ntmps35;go_wp2_with (at_builtin;refine Fq _ rfl _ _ 72 rfl w.heap.size 9 i0 (Value.string .empty) jW.size 16 underlying72 ar m_ oz oA rfl (by decide) jW.raw aAQ _ _ _ rfl il.out (some a) n c ess.flatten rfl cy.out mm nN ?qc4 ?qc5 ?qc6 ?_)
  case qc4=>unfold maxLen;omega
  case qc5=>omega
  case qc6=>simp
  intro v' aP eI ic k7 fq;have cK:=cx.grown ic (by simp) (by intro k av;simp [Value.ownBlock] at av;omega);obtain ⟨cg,c1,rfl,hle,_,_,_,j9⟩:=eI.shape;have je:cg≠none:=by
   intro h;subst h;exact k7 (j9 Z)
  have aT:Hid (jW.aG 9 16 aP w.heap.size (τ.ae cg) cg c1 l):=aQO (τ.aG.yT aAZ uK.out (by rw [ew.out];exact aw) (by rw [ew.out];simpa using eI));have qL:=aQO je;clear ic k7 fq eI je j9 mm nN;go_wp2_with fail
  go_ret;exact ⟨cg,c1,Z,aT.out,⟨λ h=>absurd h qL.out,λ h=>by cases h⟩,cK⟩
end
section
open Go.Proofs.YtlikikpgmmkjbaaGreat.eV
theorem aCf {by_:Nat} {w:World} {A:Option Addr} {c:Nat} {l:List ByteArray} (h:jW.aI by_ w A c l) (i:Nat):(l.getD i ByteArray.empty).size≤140737488351232:=by
 rcases aRG i l.length with ar | ar
 ·exact akl h _ (jj ar)
 ·rw [aQK,aRP ar];decide
theorem asR {W V:ag} {ls:List ByteArray} {e:Int} {k:Nat} (h:zm W ls e V k):V.aU.length≤8:=by
 rcases h with ⟨_,⟨_,γ⟩,_,M,⟨_,_,_,ab,aw⟩,_⟩ | ⟨_,_,h,_⟩
 ·rw [aw];exact (Good.vy (ajJ M W γ ab).1).jU
 ·rw [h];decide
theorem asQ {W V:ag} {ls:List ByteArray} {e:Int} {k:Nat} (h:zm W ls e V k):e≠0∨k≤ls.length:=by
 rcases h with ⟨_,_,h,_⟩ | ⟨h,_⟩
 ·exact .inr h
 ·exact .inl h
theorem aCu {W V:ag} {ls:List ByteArray} {e:Int} {k:Nat} (h:zm W ls e V k):((e != 0 || decide ((k:Int)≤(ls.length:Int))) && decide ((V.aU.length:Int)≤8))=true:=by
 have γ:=asR h;have ab:=asQ h;simp only [aQT,aRv,aTT,aRg];exact ⟨by omega,by omega⟩
theorem asP {W V:ag} {ls:List ByteArray} {L:List (List aN)} {n k:Nat} (h:Sk W ls V k) (hn:n<ls.length) (afG:ls.take n=(L.take n).map hk) (hlen:n≤L.length) (j6:∀ m∈L,hi m=0∧∀ o∈m,o.ok) (hr:h5 W L=0) (ix:∀ m,x9 (hk m) m 0→ls[n]? ≠some (hk m)):k=n∧V=lH W (L.take n):=by
 obtain ⟨av,M,⟨a,b,c,d,e⟩,hs⟩:=h;have γ:k≤n:=by
  rcases aRG n k with bA | qj
  ·have hm:M[n]? =some (M[n]'(by omega)):=aQN (by omega);refine absurd ?_ (ix (M[n]'(by omega)) (c _ (aRO _)).2.2);have:=aRS (λ l=>l[n]?) b;simp only [aRq,aQZ bA,aQ4,hm] at this;exact this
  ·exact qj
 have mi:L.take k=M:=YO (λ m hm=>j6 m (aSj hm)) (λ m hm=>(c m hm).2.2) (by
  rw [← b,aS5];have:=aRS (List.take k) afG;rw [aUg,aSd γ,aS5,aUg,aSd γ] at this;exact this.symm)
 rcases aRG k n with bA | qj
 ·rcases hs with hs | hs
  ·omega
  ·have afv:k<L.length:=by omega
   have aM:L[k]? =some L[k]:=aQN afv;have ab:=j6 _ (aRO afv);refine absurd ?_ (hs L[k] ab.1 ab.2 ?_)
   ·have aw:h5 W (L.take k)=0:=aRX λ aF=>HU aF hr;have aX:h5 W (L.take (k+1))=0:=aRX λ aF=>HU aF hr;rw [QT aw aM] at aX;rw [e,← mi];exact aX
   ·have:=aRS (λ l=>l[k]?) afG;simp only [aRq,aQZ bA,aQ4,aM] at this;exact this
 ·have:k=n:=by omega
  subst this;exact ⟨Z,by rw [e,mi]⟩
theorem aks {W Bu aa7 aa8:ag} {ls:List ByteArray} {n:Int} {qX:BitVec 32} {p:Nat} {t:List UInt8} {a_ bh cD:Int} {dJ eO j_:Nat} (γ:zm W ls a_ Bu dJ) (he:a_=0) (av:dJ=ls.length) (hn:n.toNat<ls.length) (wT:qX≠0#32)
  (kP:eu.Inv (ls.getD n.toNat ByteArray.empty) qX p (ls.getD n.toNat ByteArray.empty).size 32 t) (ab:zm W (ls.set n.toNat (r7 t)) bh aa7 eO) (aw:zm W (ls.take n.toNat) cD aa8 j_):bh=0∧cD=0∧eO=n.toNat∧j_=n.toNat∧aa7=aa8:=by
 obtain ⟨_,⟨az,hc⟩,_,M,⟨a,b,c,d,e⟩,_⟩:=γ.resolve_right λ h=>h.1 he;rw [av,aRC] at b;have mi:M.length=ls.length:=by rw [b,aRz]
 have j6:∀ m∈M,hi m=0∧∀ o∈m,o.ok:=λ m hm=>⟨(c m hm).1,(c m hm).2.1⟩;obtain ⟨a2,_,f2⟩:=ab.resolve_right λ h=>h.2.1 ⟨by rw [aQS];exact az,hc⟩;obtain ⟨a3,_,f3⟩:=aw.resolve_right λ h=>h.2.1 ⟨by rw [aQP];omega,hc⟩;have PV:h5 W (M.take n.toNat)=0:=aRX λ aF=>HU aF d;rw [b,← aS5] at f3;obtain ⟨gm,c3⟩:=ad0 f3 (λ m hm=>j6 m (aSj hm)) PV;have afN:n.toNat<M.length:=by omega
 have auY:M[n.toNat]? =some M[n.toNat]:=aQN afN;have b4:ls.getD n.toNat ByteArray.empty=hk M[n.toNat]:=by
  rw [aQK,b,aQ4,auY];rfl
 rw [b4] at kP;obtain ⟨eZ,c2⟩:=asP f2 (by rw [aQS];exact hn) (L:=M) (by rw [aVJ (aQW _),b,aS5]) (by omega) j6 d (λ m hm hs=>by
  rw [aQ9 hn] at hs;have hs:=aQL hs;rw [← hs] at hm;have:=(aCt (j6 _ (aRO afN)).1 wT kP hm).1
  omega)
 exact ⟨a2,a3,eZ,by rw [gm,aQP];omega,by rw [c2,c3]⟩
theorem avW (a:ag.cc) (W:ag) (A:Option Addr) (c:Nat) (ls:List ByteArray) (n at_:Int) (qX:BitVec 32) (w:World) (bP:ag.Has w a W) (az:jW.aI 16 w A c ls):
  Calls prog 8 #[.agg ((ag.cells a W).toArray), .slice A ls.length c, .int .i64 n, .int .i64 at_, .int .u32 (eV.U qX)] w (λ e w'=>e= .returned (.bool true)∧Ext w w'):=by
 have pD:=az.d_;have avl:=az.1;have f_:∀ i,(ls.getD i ByteArray.empty).size≤140737488351232:=λ i=>aCf az i;refine cd (n:=166) func8 Z Z Z ?_;refine aj<|cB Z Z Z Z λ cO bJ ba eb aa=> ?_;have:=ba.size;have bk:=κ (Ext.bI w) ba;have eh:=aa.lt;refine va Z<|ai<|aj<|J (ao Z (aa.all c7 b3))<|vm Z<|ca JO Z Z ((Ky a W _ _ ls ls.length _ (by simp) (bP.keep bk) (az.keep bk)).mono ?_);rintro e uj ⟨IH,aKt,Jj,anU,rfl,Hc,IY,kV⟩;refine ⟨_,Z, ?_⟩;have:=kV.size;have jB:=κ bk kV;have Yn:=λ q I=>(IY.lt q I).2;have ax3:=λ q I=>(IY.lt q I).1;refine vm Z<|J (ex Z Z)<|J (ex Z Z)<|J (ex Z Z)<|al Z mh Z Z λ Fh aG5 eS aLi FY=> ?_;have:=eS.size;have sR:=κ jB eS;have aNK:=FY.lt;refine st Z Z FY Z b3 Z Z Z λ xx my FY=> ?_;have:=my.size;have jC:=Ext.mod sR my bw;refine va Z<|va Z<|ai<|aB<|aj<|ca adz Z Z ((afY _).mono ?_);rintro e qv ⟨rfl,cp⟩;refine ⟨_,Z, ?_⟩;have:=cp.size;have ht:=κ jC cp;refine J (eg Z)<|vm Z<|lf Z Z Z<|vm Z<|lf Z Z Z<|J (bne Z Z)<|J (sz Z Z)<|vm Z<|aO Z Z Z Z (λ hc=>aH Z) Z<|aO Z Z Z Z (λ hc=>aH Z) Z<|aO Z Z Z Z (λ hc=>cu underlying72 (gt hc Z)) Z<|aO Z Z Z Z (λ hc=>bne (gt hc Z) (gt hc Z)) Z<|J (ez Z Z Z Z)<|vm Z<|aO Z Z Z Z (λ hc=>aH Z) Z<|aO Z Z Z Z (λ hc=>blt (gt hc Z) Z) Z<|J (ez Z Z Z Z)<|vm Z<|aO Z Z Z Z (λ hc=>aH Z) Z<|aO Z Z Z Z (λ hc=>aH Z) Z<|aO Z Z Z Z (λ hc=>cu underlying72 (gt hc Z)) Z<|aO Z Z Z Z (λ hc=>iI (gt hc Z) (gt hc Z)) Z<|J (ez Z Z Z Z)<|vm Z<| ?_;refine aO Z Z Z Z (λ hc=>aH Z) Z<|aO Z Z Z Z (λ hc=>blt (gt hc Z) Z) Z<|J (ez Z Z Z Z)<|vm Z<|aO Z Z Z Z (λ hc=>aH Z) Z<|aO Z Z Z Z (λ hc=>aH Z) Z<|aO Z Z Z Z (λ hc=>aH Z) Z<|aO Z Z Z Z (λ hc=>b5 n.toNat underlying72 Gv (gt hc Z) (gt hc Z) ((az.keep ht).bL (a7 n.toNat (by (try simp only [cv] at hc);omega))) (by (try simp only [cv] at hc);omega) (by (try simp only [cv] at hc);omega)) Z<|aO Z Z Z Z (λ hc=>ao (gt hc Z) (τ.aI.fB Pv ((az.keep ht).cA (a7 n.toNat (by (try simp only [cv] at hc);omega))) (df (l:=ls) (u:=ByteArray.empty) (by (try simp only [cv] at hc);omega)) Z T5)) Z<|aO Z Z Z Z (λ hc=>ax2 underlying9 (gt hc Z) (by have bf:=f_ n.toNat;omega)) Z<|aO Z Z Z Z (λ hc=>yc Z (gt hc Z) (bG (by have bf:=f_ n.toNat;(try simp only [cv] at hc);omega))) Z<|aO Z Z Z Z (λ hc=>iI (gt hc Z) (gt hc Z)) Z<|J (ez Z Z Z Z)<|vm Z<|aO Z Z Z Z (λ hc=>aH Z) Z<|aO Z Z Z Z (λ hc=>beq (gt hc Z) Z) Z<|J (ez Z Z Z Z)<|ai<| ?_;refine dT Z (λ Ka=> ?_) (λ Ka=> ?_)
 ·simp only [cv] at Ka;refine aj<|ca adz Z Z ((afY _).mono ?_);rintro e sI ⟨rfl,eC⟩;refine ⟨_,Z, ?_⟩;have:=eC.size;have hN:=κ ht eC;refine vm Z<|lf Z Z Z<|vm Z<|lf Z Z Z<|J (bne Z Z)<|lf Z Z Z<|vm Z<|aO Z Z Z Z (λ hc=>aH Z) Z<|aO Z Z Z Z (λ hc=>aH Z) Z<|aO Z Z Z Z (λ hc=>cu underlying72 (gt hc Z)) Z<|aO Z Z Z Z (λ hc=>ble (gt hc Z) (gt hc Z)) Z<|lf Z Z Z<|J (ez Z Z Z Z)<|J (pQ Z Z)<|vm Z<|aO Z Z Z Z (λ hc=>au qd Z) Z<| ?_;have FY:=FY.later (κ cp eC);refine aO Z Z Z Z (λ hc=>ao (gt hc Z) (FY.one tA Z)) Z<|aO Z Z Z Z (λ hc=>cu underlying25 (gt hc Z)) Z<|aO Z Z Z Z (λ hc=>ble (gt hc Z) Z) Z<|J (di Z Z Z Z)<|va Z<|ai<|rt<|bN<|bb (.tmp Z .nil)<| ?_;exact ⟨L2 (aCu Hc),hN⟩
 ·simp only [cv] at Ka;have cx:¬ (eV.U qX=0):=by omega
  have wT:qX≠0#32:=λ e=>cx (by rw [e];rfl);have Cc:n.toNat<ls.length:=by omega
  obtain ⟨_,⟨_,lY⟩,aI2⟩:=Hc.resolve_right λ bf=>bf.1 (by omega);have aKg:=f_ n.toNat;have Wj:(ls.getD n.toNat ByteArray.empty).data.toList.length=(ls.getD n.toNat ByteArray.empty).size:=aSp;refine bs<|aj<|vm Z<|vm Z<|J (b5 n.toNat underlying72 Gv Z Z ((az.keep ht).bL (a7 n.toNat)) (by omega) (by omega))<|J (ao Z (τ.aI.fB Pv ((az.keep ht).cA (a7 n.toNat)) (df (l:=ls) (u:=ByteArray.empty) (by omega)) Z T5))<|apL Z (f_ _) Z λ xy Dj Z0 jo SB=> ?_;have:=jo.size;have ln:=κ ht jo;have aCU:=λ q I=>(SB.lt q I).2;have ah8:=λ q I=>(SB.lt q I).1;refine va Z<|ai<|aB<|aj<|vm Z<|ai<|bR<| ?_;obtain ⟨p,hp⟩:∃ p:Nat,at_=(p:Int):=⟨at_.toNat,by omega⟩;have aa:=aa.later (κ kV eS);have aa:=aa.mod my aR;have aa:=aa.later (κ cp jo);refine fg (λ cm cl a6=>∃ k:Nat,∃ t:List UInt8,cl= [(1, .slice A ls.length c),(2, .int .i64 n),(3, .int .i64 at_),(4, .int .u32 (eV.U qX)),(5, .pointer (some ⟨bJ,0,none⟩)),(14, .slice Dj ((ls.getD n.toNat ByteArray.empty).size) Z0),(92, .int .i64 (k:Int))]∧cm=32 - k∧Ext w a6∧aQ a6 bJ (ag.cells a W) 28 (0,0)∧v8 qv.heap.size a6 Dj Z0 (t)∧(k≤32)∧(eu.Inv (ls.getD n.toNat ByteArray.empty) qX p (ls.getD n.toNat ByteArray.empty).size k t)∧(∀ q∈τ.ae Dj,q=bJ→False)) _ _ ⟨0,(ls.getD n.toNat ByteArray.empty).data.toList,Z,Z,ln,aa,SB,by omega,aw2 _ _ _,(λ q I Φ=>by (have:=ah8 q I;omega))⟩ (.cons Z (.cons Z (.cons Z (.cons Z (.cons Z (.cons Z (.cons (b2 Z (by first | omega | rfl | (simp<;>omega))) .nil))))))) ?_;rintro oF aF4 Mr ⟨k,t,rfl,rfl,qE,aa,oc,av,kP,TE⟩;have:=qE.size;have aAE:=aa.lt;have aCY:=λ q I=>(oc.lt q I).2;have atI:=kP.len;refine aj<|J (blt Z Z)<|ai<|aB<| ?_;refine ef Z (λ yy=> ?_) (λ yy=> ?_)
  ·refine bs<|aB<|bR<|aj<|vm Z<|va Z<|ai<|aj<|vm Z<|vm Z<|J (abH (m:=k) Z Z (by show k≤32;omega) (eV.NP _))<|J (abr Z Z)<|J (beq Z Z)<|ai<| ?_;refine jI Z (λ Vh=> ?_) (λ Vh=> ?_)
   ·have yA:qX.getLsbD k=true:=by rw [← eu.aby];simpa using Vh
    refine aB<|aj<|vm Z<|vm Z<|J (bad Z Z (bG (by have bf:=f_ n.toNat;omega)))<|vm Z<|J (cu underlying76 Z)<|J (yc Z Z (bG (by have bf:=f_ n.toNat;omega)))<|J (iI Z Z)<|ai<| ?_;refine DY Z (λ Vi=> ?_) (λ Vi=> ?_)
    ·refine aj<|va Z<|ai<|rt<|bN<|ej<|bN<|lK<|ej<|bN<|bb (.tmp Z .nil)<| ?_;exact ⟨Z,qE⟩
    ·refine bs<| ?_;refine rd [(6,0),(14,3)] [0,1,2,3,4,5,6,7,8,9,10,11,12,13,14] (by kernel_rfl) (by kernel_rfl) ?_;refine aq Z (λ _=>aH Z)<|aq Z (λ _=>aH Z)<|aq Z (λ _=>aH Z)<|aq Z (λ _=>bad Z Z (bG (by have bf:=f_ n.toNat;omega)))<|aq Z (λ _=>abE Z Z (by omega) (by omega) (ajr (by omega) (by omega) (by omega)))<|aq Z (λ _=>b5 (((at_+(k:Int)) / 8).toNat) underlying76 T6 Z Z (oc.has.bL (a7 (((at_+(k:Int)) / 8).toNat))) (by omega) (by omega))<|bE Z (λ _ x=>ao Z (τ.aI.fB auC ((oc.later x).has.cA (a7 (((at_+(k:Int)) / 8).toNat))) (df (l:=t) (u:=0) (by omega)) Z ar5))<|aq Z (λ _=>aH Z)<|aq Z (λ _=>aH Z)<|aq Z (λ _=>bad Z Z (bG (by have bf:=f_ n.toNat;omega)))<|aq Z (λ _=>abF Z Z (by omega) (by omega))<|aq Z (λ _=>abG (m:=(p+k) % 8) Z Z (by omega) (by show (p+k) % 8≤8;omega))<|aq Z (λ _=>aoB (m:=(p+k) % 8) Z Z (by omega))<|aq Z (λ _=>b5 (((at_+(k:Int)) / 8).toNat) underlying76 T6 Z Z (oc.has.bL (a7 (((at_+(k:Int)) / 8).toNat))) (by omega) (by omega))<|eo Z Z Z λ y_ ee Q hK=>aBl (i:=(((at_+(k:Int)) / 8).toNat)) (b:=((t.getD (((at_+(k:Int)) / 8).toNat) 0) ^^^ eu.qW ((p+k) % 8))) (oc.later ee) (by omega) Z Z T6 λ C1 fW SC=>hK _ _ ?_;have:=ee.size;have kG:=κ qE ee;have:=fW.size;have mJ:=Ext.mod kG fW (λ q I=>by have:=ah8 q I;omega);refine fn λ pW dM=> ?_;have:=dM.size;have hy:=κ mJ dM;refine bX<|aV<|rg<|J (bad Z Z (bG (by have bf:=f_ n.toNat;omega)))<|vm Z<|nl<| ?_;have a_:(t).set (((at_+(k:Int)) / 8).toNat) (((t.getD (((at_+(k:Int)) / 8).toNat) 0) ^^^ eu.qW ((p+k) % 8)))=t.set ((p+k) / 8) (t[(p+k) / 8]'(by omega) ^^^ eu.qW ((p+k) % 8)):=by rw [show ((at_+(k:Int)) / 8).toNat=(p+k) / 8 by omega,mW (by omega)]
     have aa:=aa.later ee;have aa:=aa.mod fW (λ I=>TE _ I rfl);have aa:=aa.later dM;have SC:=SC.later dM;exact c' _ _ ⟨k+1,(t).set (((at_+(k:Int)) / 8).toNat) (((t.getD (((at_+(k:Int)) / 8).toNat) 0) ^^^ eu.qW ((p+k) % 8))),Z,Z,hy,aa,SC,by omega,(by rw [a_];exact kP.aCz (by omega) yA (by omega) (by omega)),(λ q I Φ=>by (exact TE q I Φ))⟩ (by omega) (.cons Z (.cons Z (.cons Z (.cons Z (.cons Z (.cons Z (.cons (b2 Z (by first | omega | rfl | (simp<;>omega))) .nil)))))))
   ·have yA:qX.getLsbD k=false:=by rw [← eu.aby];simpa using Vh
    refine e6<|bX<|aV<|rg<|J (bad Z Z (bG (by have bf:=f_ n.toNat;omega)))<|vm Z<|nl<| ?_;exact c' _ _ ⟨k+1,t,Z,Z,qE,aa,oc,by omega,kP.skip yA,(λ q I Φ=>by (exact TE q I Φ))⟩ (by omega) (.cons Z (.cons Z (.cons Z (.cons Z (.cons Z (.cons Z (.cons (b2 Z (by first | omega | rfl | (simp<;>omega))) .nil)))))))
  ·have lu:k=32:=by omega
   subst lu;refine dN<|dL<|ed<|dK<|aV<|aj<|vm Z<|ca ar7 Z Z ((apC _ _ ls _ (az.keep qE)).mono ?_);rintro e Mx ⟨alT,aHR,rfl,I5,aJM,jz⟩;refine ⟨_,Z, ?_⟩;have:=jz.size;have qG:=κ qE jz;have Fe:=λ q I=>(I5.lt q I).2;have aia:=λ q I=>(I5.lt q I).1;refine va Z<|ai<|aj<|vm Z<|vm Z<|vm Z<| ?_;have oc:=oc.later jz;refine J (apK underlying76 underlying5 underlying9 oc.has (by rw [atI];rfl))<|J (b5 n.toNat underlying72 Gv Z Z (I5.has.bL (a7 n.toNat)) (by omega) (by omega))<|so (q':=r7 (t)) (j:=0) (i:=n.toNat) I5 aAX (df (l:=ls) (u:=ByteArray.empty) (by omega)) Z Z Z Z (λ _ cs h=>by have oL:=(show _∧_ from h).2;obtain rfl:=Pv h;exact ⟨rfl,(show t.length≤140737488351232 by have bf:=f_ n.toNat;omega)⟩) Z Z Gv λ Fm AB anl=> ?_;have:=AB.size;have vR:=Ext.mod qG AB (λ q I=>aRj (by omega) (I5.lt q I).1);refine ai<|aj<| ?_;have aa:=aa.later jz;have TG:∀ q∈τ.ae alT,q=bJ→False:=λ q I Φ=>by (have:=aia q I;omega)
   have aa:=aa.mod AB (λ I=>TG _ I rfl);refine J (ao Z (aa.all c7 b3))<|vm Z<|ca JO Z Z ((Ky a W _ _ ((ls).set n.toNat (r7 (t))) ((ls).length) _ (by simp) (bP.keep vR) anl.has).mono ?_);rintro e Fp ⟨aFJ,agx,a72,aa9,rfl,agc,k1,sP⟩;refine ⟨_,Z, ?_⟩;have:=sP.size;have xN:=κ vR sP;have y7:=λ q I=>(k1.lt q I).2;have Cs:=λ q I=>(k1.lt q I).1;refine vm Z<|J (ex Z Z)<|J (ex Z Z)<|J (ex Z Z)<|al Z mh Z Z λ YC aHv vP aLN oX=> ?_;have:=vP.size;have FK:=κ xN vP;have aOh:=oX.lt;refine st Z Z oX Z b3 Z Z Z λ Mz oH oX=> ?_;have:=oH.size;have vS:=Ext.mod FK oH bw;refine va Z<|va Z<|ai<|aB<| ?_;refine ajt [(0,0),(4,2),(9,2),(10,3)] [0,1,2,3] 4 [5,6,7,8,9,10,11,12] 9 [4,5,6,7,8,10,11,12] (by kernel_rfl) (by kernel_rfl) ?_;have aa:=aa.later (κ sP vP);have aa:=aa.mod oH aR;refine bE Z (λ _ x=>ao Z ((aa.later x).all c7 b3))<|aq Z (λ _=>aH Z)<|aq Z (λ _=>aH Z)<|aq Z (λ _=>XS ((n).toNat) (ls.take ((n).toNat)).length underlying72 Gv Z Z (by omega) (by omega) (by rw [aQP];omega))<|fn λ alh oR=> ?_;have:=oR.size;have Dg:=κ vS oR;refine adT ?_ ?_
   ·refine fG Z Z Z λ MA e8 Q hK=>ca JO Z Z ((Ky a W _ _ (ls.take ((n).toNat)) ((ls.take ((n).toNat)).length) _ (by simp) (bP.keep (κ Dg e8)) ((az.keep (κ Dg e8)).pre ((n).toNat))).mono ?_);rintro e YJ ⟨aFL,axe,anX,anV,rfl,awb,zz,rO⟩;refine ⟨_,Z,hK _ _ ⟨κ e8 rO, ?_⟩⟩;have:=e8.size;have xO:=κ Dg e8;have:=rO.size;have FP:=κ xO rO;have akP:=λ q I=>(zz.lt q I).2;have aMa:=λ q I=>(zz.lt q I).1;refine aq Z (λ _=>aH Z)<|aq Z (λ _=>ex Z Z)<|aq Z (λ _=>ex Z Z)<|aq Z (λ _=>ex Z Z)<|fG Z Z Z λ Ff uq Q hK=>al Z mh Z Z λ aDz aGT Ik aK0 A_=>hK _ _ ⟨κ uq Ik, ?_⟩;have:=uq.size;have FD:=κ FP uq;have:=Ik.size;have YU:=κ FD Ik;have aAo:=A_.lt;refine eo Z Z Z λ aPI Il Q hK=>st Z Z (A_.later Il) Z b3 Z Z Z λ aDC LD A_=>hK _ _ ?_;have:=Il.size;have aEB:=κ YU Il;have:=LD.size;have YX:=Ext.mod aEB LD bw;refine aq Z (λ _=>eY Z)<|aq Z (λ _=>eY Z)<|fn λ aPL xA=> ?_;have:=xA.size;have aEE:=κ YX xA;refine aV<|aj<|vm Z<|J (beq Z Z)<|vm Z<|aO Z Z Z Z (λ hc=>aH Z) Z<|aO Z Z Z Z (λ hc=>beq (gt hc Z) Z) Z<|J (di Z Z Z Z)<|vm Z<|aO Z Z Z Z (λ hc=>aH Z) Z<|aO Z Z Z Z (λ hc=>aH Z) Z<|aO Z Z Z Z (λ hc=>beq (gt hc Z) (gt hc Z)) Z<|J (di Z Z Z Z)<|vm Z<|aO Z Z Z Z (λ hc=>aH Z) Z<|aO Z Z Z Z (λ hc=>aH Z) Z<|aO Z Z Z Z (λ hc=>beq (gt hc Z) (gt hc Z)) Z<|J (di Z Z Z Z)<|vm Z<| ?_;have oX:=oX.later (κ oR (κ e8 (κ rO (κ uq (κ Ik Il)))));have oX:=oX.mod LD aR;have oX:=oX.later xA;refine aO Z Z Z Z (λ hc=>ao Z (oX.all c7 b3)) Z<| ?_;have A_:=A_.later xA;refine aO Z Z Z Z (λ hc=>ao Z (A_.all c7 b3)) Z<| ?_;have k1:=k1.later vP;have k1:=k1.mod oH (b0 y7);have k1:=k1.later (κ oR (κ e8 (κ rO (κ uq (κ Ik Il)))));have k1:=k1.mod LD (b0 y7);have k1:=k1.later xA;have zz:=zz.later (κ uq (κ Ik Il));have zz:=zz.mod LD (b0 akP);have zz:=zz.later xA;refine pV Z Z Z Z adA (λ hc=>fp (gt hc Z) (fp (gt hc Z) Z)) (λ hc=>ajO _ a72 aa9 anX anV k1.has zz.has) Z λ aDE alB=> ?_;have:=alB.size;have YZ:=κ aEE alB;refine J (di Z Z Z Z)<|va Z<|ai<|rt<|bb (.tmp Z .nil)<| ?_;obtain ⟨g1,g2,g3,g4,g5⟩:=aks Hc (by omega) (by omega) Cc wT kP agc awb;have g6:(agx:Int)=n:=by omega
    have g7:(axe:Int)=n:=by omega
    exact ⟨L2 (by simp [g1,g2,g6,g7,g5]),YZ⟩
   ·refine fG Z Z Z λ ak3 sL Q hK=>al Z mh Z Z λ aDG aGZ uu aK7 A'=>hK _ _ ⟨κ sL uu, ?_⟩;have:=sL.size;have It:=κ Dg sL;have:=uu.size;have MK:=κ It uu;have aNx:=A'.lt;refine fG Z Z Z λ aPT C9 Q hK=>ca JO Z Z ((Ky a W _ _ (ls.take ((n).toNat)) ((ls.take ((n).toNat)).length) _ (by simp) (bP.keep (κ MK C9)) ((az.keep (κ MK C9)).pre ((n).toNat))).mono ?_);rintro e aPW ⟨aFE,axa,anW,anR,rfl,av6,zy,uv⟩;refine ⟨_,Z,hK _ _ ⟨κ C9 uv, ?_⟩⟩;have:=C9.size;have aEM:=κ MK C9;have:=uv.size;have aEO:=κ aEM uv;have aO5:=λ q I=>(zy.lt q I).2;have ax5:=λ q I=>(zy.lt q I).1;refine aq Z (λ _=>aH Z)<|aq Z (λ _=>ex Z Z)<|aq Z (λ _=>ex Z Z)<|aq Z (λ _=>ex Z Z)<| ?_;have A':=A'.later (κ C9 uv);refine eo Z Z Z λ ak8 n2 Q hK=>st Z Z (A'.later n2) Z b3 Z Z Z λ aDJ LG A'=>hK _ _ ?_;have:=n2.size;have MO:=κ aEO n2;have:=LG.size;have Y2:=Ext.mod MO LG bw;refine aq Z (λ _=>eY Z)<|aq Z (λ _=>eY Z)<|fn λ aDK mG=> ?_;have:=mG.size;have Y3:=κ Y2 mG;refine aV<|aj<|vm Z<|J (beq Z Z)<|vm Z<|aO Z Z Z Z (λ hc=>aH Z) Z<|aO Z Z Z Z (λ hc=>beq (gt hc Z) Z) Z<|J (di Z Z Z Z)<|vm Z<|aO Z Z Z Z (λ hc=>aH Z) Z<|aO Z Z Z Z (λ hc=>aH Z) Z<|aO Z Z Z Z (λ hc=>beq (gt hc Z) (gt hc Z)) Z<|J (di Z Z Z Z)<|vm Z<|aO Z Z Z Z (λ hc=>aH Z) Z<|aO Z Z Z Z (λ hc=>aH Z) Z<|aO Z Z Z Z (λ hc=>beq (gt hc Z) (gt hc Z)) Z<|J (di Z Z Z Z)<|vm Z<| ?_;have oX:=oX.later (κ oR (κ sL (κ uu (κ C9 (κ uv n2)))));have oX:=oX.mod LG aR;have oX:=oX.later mG;refine aO Z Z Z Z (λ hc=>ao Z (oX.all c7 b3)) Z<| ?_;have A':=A'.later mG;refine aO Z Z Z Z (λ hc=>ao Z (A'.all c7 b3)) Z<| ?_;have k1:=k1.later vP;have k1:=k1.mod oH (b0 y7);have k1:=k1.later (κ oR (κ sL (κ uu (κ C9 (κ uv n2)))));have k1:=k1.mod LG (b0 y7);have k1:=k1.later mG;have zy:=zy.later n2;have zy:=zy.mod LG (bz ax5);have zy:=zy.later mG;refine pV Z Z Z Z adA (λ hc=>fp (gt hc Z) (fp (gt hc Z) Z)) (λ hc=>ajO _ a72 aa9 anW anR k1.has zy.has) Z λ aDL nt=> ?_;have:=nt.size;have Y4:=κ Y3 nt;refine J (di Z Z Z Z)<|va Z<|ai<|rt<|bb (.tmp Z .nil)<| ?_;obtain ⟨g1,g2,g3,g4,g5⟩:=aks Hc (by omega) (by omega) Cc wT kP agc av6;have g6:(agx:Int)=n:=by omega
    have g7:(axa:Int)=n:=by omega
    exact ⟨L2 (by simp [g1,g2,g6,g7,g5]),Y4⟩
theorem avV (bW:Array Value) (cj:Option Addr) (Qf Og:Nat) (a2:Int) (a3:Int) (a4:Int) (w:World) (aF:(.cons (.cons (.int .i64) (.cons (.int .i64) (.cons (.slice (.int .i64) 8) .nil))) (.cons (.slice (.cons (.int .i64) (.cons (.int .i64) .nil)) 16) (.cons (.slice (.int .i64) 8) (.cons (.slice (.int .i64) 8) (.cons (.slice (.cons (.int .i64) (.cons (.int .i64) (.cons (.int .i64) (.cons (.cons (.int .i64) (.cons (.int .i64) .nil)) (.cons (.int .i64) (.cons (.int .i64) .nil)))))) 56) (.cons (.int .i64) (.cons (.int .i64) .nil)))))):gi).iH w bW.toList) (γ:(.slice .str 16:gi).iH w [.slice cj Qf Og]) (cr:(Lit.int .i64 a2).wf=true) (w3:(Lit.int .i64 a3).wf=true) (n1:(Lit.int .u32 a4).wf=true):
  Calls prog 8 #[.agg bW, .slice cj Qf Og, .int .i64 a2, .int .i64 a3, .int .u32 a4] w λ e w'=>e= .returned (.bool true)∧Below w.heap.size w w':=by
 obtain ⟨a,W,e,bP⟩:=ag.opens w _ (show ag.sh.iH w bW.toList from aF);have hc:bW=(ag.cells a W).toArray:=by rw [← e]
 subst hc;obtain ⟨A,c,ls,bh,az⟩:=τ.HF (R:=jW) (by_:=16) aAY rfl (by decide) γ;simp only [aS9,Value.slice.injEq,and_true] at bh;obtain ⟨rfl,rfl,rfl⟩:=bh;obtain ⟨qX,rfl⟩:=eu.azt n1;exact avW a W _ _ ls a2 a3 qX w bP az
end
end Go.Proofs.YtlikikpgmmkjbaaGreat
