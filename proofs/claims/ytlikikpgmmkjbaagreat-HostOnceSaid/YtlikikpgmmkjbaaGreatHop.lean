import Derived.Test.YtlikikpgmmkjbaaGreatHnw
set_option linter.unusedVariables false
set_option linter.unusedSimpArgs false
set_option maxRecDepth 100000
set_option maxHeartbeats 4000000
open Go.RowKit
namespace Go.Proofs.YtlikikpgmmkjbaaGreat
open Tryz
section
open Go.Proofs.YtlikikpgmmkjbaaGreat.fc
theorem aDv {by_:Nat} {w:World} {A:Option Addr} {c:Nat} {l:List ByteArray} (h:u1.aJ by_ w A c l):∀ s∈l,s.size≤140737488351232:=κ.aJ.y0 (R:=u1) (Q:=λ s:ByteArray=>s.size≤140737488351232) (fun {w cs a} (h:u1.has w cs a)=>(show cs= [.string a]∧a.size≤140737488351232 from h).2) h
def B9 (W:ah) (ls:List ByteArray) (k:Nat) (V:ah) (M:List (List aF)):Prop:=M.length=k∧ls.take k=M.map iQ∧(∀ m∈M,hC m=0∧(∀ o∈m,o.ok)∧Cn (iQ m) m 0)∧kr W M=0∧V=ot W M
theorem B9.start {W V:ah} {ls:List ByteArray} (h:V=ot W []):B9 W ls 0 V []:=⟨rfl,rfl,λ m h=>by simp at h,rfl,h⟩
theorem B9.next {W V:ah} {ls:List ByteArray} {k:Nat} {M:List (List aF)} {m:List aF} {s:ByteArray} (h:B9 W ls k V M) (aK:ls[k]? =some s) (τ:hC m=0) (aa:iQ m=s) (aw:∀ o∈m,o.ok) {H_:Int} (hR:Cn s m H_) (ar:H_=0) (a1:h5 V m=0):B9 W ls (k+1) (ox V m) (M++ [m]):=by
 obtain ⟨a,b,c,d,e⟩:=h;refine ⟨by rw [aRH,a];rfl, ?_, ?_, ?_, ?_⟩
 ·rw [aR3,← b,List.map_singleton,aa];exact BC aK
 ·intro m' awM;rcases aRR.1 awM with h | h
  ·exact c m' h
  ·rw [aRz.1 h];refine ⟨τ,aw, ?_⟩;rw [aa,← ar];exact hR
 ·rw [MS,aRL (by rw [d];simp),RP,← e];exact a1
 ·rw [akx,← e];rfl
def aaV (W:ah) (ls:List ByteArray) (V:ah) (k:Nat):Prop:=k≤ls.length∧∃ M,B9 W ls k V M∧(k=ls.length∨∀ m,hC m=0→(∀ o∈m,o.ok)→ls[k]? =some (iQ m)→h5 V m≠0)
theorem aFc {l m:List aF} (h:hC l=0) (eh:∀ o∈l,o.ok) (hR:Cn (iQ m) m 0) (he:iQ l=iQ m):l=m:=(Yw h eh (by rw [he];exact hR)).2.symm
theorem amq:∀ {L M:List (List aF)},(∀ m∈L,hC m=0∧∀ o∈m,o.ok)→(∀ m∈M,Cn (iQ m) m 0)→L.map iQ=M.map iQ→L=M
 | [], [],_,_,_=>rfl
 | [],_::_,_,_,h=>by simp at h
 | _::_, [],_,_,h=>by simp at h
 | l::L,m::M,τ,aa,h=>by
  rw [aSs,aSs] at h;obtain ⟨a_,bj⟩:=aVY h;rw [aFc (τ l (aRZ)).1 (τ l (aRZ)).2 (aa m (aRZ)) a_,amq (λ x hx=>τ x (aRQ _ hx)) (λ x hx=>aa x (aRQ _ hx)) bj]
theorem at4 {W V:ah} {L:List (List aF)} {k:Nat} (h:aaV W (L.map iQ) V k) (kK:∀ m∈L,hC m=0∧∀ o∈m,o.ok) (hr:kr W L=0):k=L.length∧V=ot W L:=by
 obtain ⟨ar,M,⟨a,b,c,d,e⟩,hs⟩:=h;rw [aSz] at ar hs;have pS:L.take k=M:=amq (λ m hm=>kK m (aTa hm)) (λ m hm=>(c m hm).2.2) (by rw [← b,aVW]);rcases hs with hs | hs
 ·rw [hs,aSi] at pS;exact ⟨hs,by rw [e,pS]⟩
 ·rcases aSA k L.length with bw | r4
  ·have aK:L[k]? =some L[k]:=aRD bw;have τ:=kK _ (aSO bw);refine absurd ?_ (hs L[k] τ.1 τ.2 (by rw [aRU,aK];rfl));have aa:kr W (L.take k)=0:=aS6 λ aH=>RQ aH hr;have aw:kr W (L.take (k+1))=0:=aS6 λ aH=>RQ aH hr;rw [RR aa aK] at aw;rw [e,← pS];exact aw
  ·have:k=L.length:=by omega
   rw [this,aSi] at pS;exact ⟨this,by rw [e,pS]⟩
def Tr (W:ah) (ls:List ByteArray) (e:Int) (V:ah) (k:Nat):Prop:=(e=0∧(ls.length≤200∧W.bo=0)∧aaV W ls V k)∨(e≠0∧¬(ls.length≤200∧W.bo=0)∧V=ah.zero∧k=0)
theorem av5 (a:ah.b5) (W:ah) (A:Option Addr) (c:Nat) (ls:List ByteArray) (w:World) (bV:ah.Has w a W) (az:u1.aJ 16 w A c ls):
  Calls prog 33 #[.agg ((ah.cells a W).toArray), .slice A ls.length c] w (λ e w'=>∃ (e':Int) (k:Nat) (a':ah.b5) (V:ah),e= .returned (.tuple #[.agg (ah.cells a' V).toArray, .int .i64 (k:Int), .int .i64 e'])∧Tr W ls e' V k∧bq w' w.heap.size a' V∧Ext w w'):=by
 have oc:=az.ez;refine ch (n:=61) func33 Z Z Z ?_;refine aj<|cB Z Z Z Z λ cv bJ a7 ee ab=> ?_;have:=a7.size;have bg:=γ (Ext.bF w) a7;have ei:=ab.lt;refine al Z pQ Z Z λ eK cw bl ie ag=> ?_;have:=bl.size;have bQ:=γ bg bl;have h3:=ag.lt;refine va Z<|va Z<|ai<|aA<|aj<|vm Z<|J (cA underlying72 Z)<|J (iw Z Z)<|ai<| ?_;refine eg Z (λ ix=> ?_) (λ ix=> ?_)
 ·refine aj<|J (v:= .agg #[.int .i64 0, .int .i64 0, .slice none 0 0, .slice none 0 0, .slice none 0 0, .slice none 0 0, .slice none 0 0, .int .i64 0, .int .i64 0]) (cK Z (by kernel_rfl))<|st (new:= [.int .i64 0, .int .i64 0, .slice none 0 0, .slice none 0 0, .slice none 0 0, .slice none 0 0, .slice none 0 0, .int .i64 0, .int .i64 0]) Z Z ag Z cf Z Z Z λ u' p7 ag=> ?_;have:=p7.size;have jW:=Ext.mod bQ p7 bu;refine va Z<|va Z<|ai<|rt<|bT<|bb (.cell Z (ag.all du cf) (.tmp Z (.tmp Z .nil)))<| ?_;exact ⟨2,0,⟨none,none,none,none,none,0,0,0,0,0⟩,ah.zero,Z, .inr ⟨(by decide),(λ bd=>by omega),Z,Z⟩,bq.zero _ _,jW⟩
 ·have oZ:ls.length≤200:=by omega
  refine bt<|aj<| ?_;have ab:=ab.later bl;refine J (ao Z (ab.all du cf))<|ca KE Z Z ((MT a W _ _ ([]:List gZ) ([]) _ (bV.keep bQ) (κ.aJ.nil _) qI.nil).mono ?_);rintro e tL ⟨aaS,a20,aoR,Jw,apH,aNd,rfl,agW,sP,abl,Lh,cx⟩;refine ⟨_,Z, ?_⟩;have:=cx.size;have jI:=γ bQ cx;have alE:=λ q I=>(sP.lt q I).2;have Fu:=λ q I=>(sP.lt q I).1;have F4:=λ q I=>(abl.lt q I).2;have Mq:=λ q I=>(abl.lt q I).1;have ara:∀ q∈κ.ae Jw,q∈bq.bX a20→False:=Lh;have ar2:∀ q∈bq.bX a20,q∈κ.ae Jw→False:=λ q τ aa=>Lh q aa τ;refine vm Z<|J (ex Z Z)<|J (ex Z Z)<|J (ex Z Z)<| ?_;have ab:=ab.later cx;refine st Z Z ab Z cf Z Z Z λ BJ og ab=> ?_;have:=og.size;have lp:=Ext.mod jI og bu;refine va Z<|va Z<|ai<|aA<|aj<|vm Z<|J (bne Z Z)<|ai<| ?_;refine e1 Z (λ n'=> ?_) (λ n'=> ?_)
  ·refine aj<|J (v:= .agg #[.int .i64 0, .int .i64 0, .slice none 0 0, .slice none 0 0, .slice none 0 0, .slice none 0 0, .slice none 0 0, .int .i64 0, .int .i64 0]) (cK Z (by kernel_rfl))<|vm Z<| ?_;have ag:=ag.later cx;have ag:=ag.mod og aO;refine st (new:= [.int .i64 0, .int .i64 0, .slice none 0 0, .slice none 0 0, .slice none 0 0, .slice none 0 0, .slice none 0 0, .int .i64 0, .int .i64 0]) Z Z ag Z cf Z Z Z λ F8 Bp ag=> ?_;have:=Bp.size;have vq:=Ext.mod lp Bp bu;refine va Z<|va Z<|ai<|rt<|bT<|bb (.cell Z (ag.all du cf) (.tmp Z (.tmp Z .nil)))<| ?_;exact ⟨aaS,0,⟨none,none,none,none,none,0,0,0,0,0⟩,ah.zero,Z, .inr ⟨(by simpa using n'),(λ bd=>(show ¬ aaS=0 by simpa using n') (agW.R2.2 ⟨by simp,bd.2,rfl⟩)),Z,Z⟩,bq.zero _ _,vq⟩
  ·obtain ⟨_,mO,_,zk,_⟩:=agW.ok (by simpa using n');refine bt<|aA<|aj<|vm Z<|J (cA underlying72 Z)<|vm Z<|ai<|bM<| ?_;have sP:=sP.mod og (bA Fu);have ag:=ag.later cx;have ag:=ag.mod og aO;refine e8 (λ cm cl aU=>∃ k:Nat,∃ oO:ah.b5,∃ kG:ah,∃ M:List (List aF),cl= [(1, .slice A ls.length c),(2, .pointer (some ⟨bJ,0,none⟩)),(4, .pointer (some ⟨cw,0,none⟩)),(29, .slice A ls.length c),(30, .int .i64 (ls.length:Int)),(31, .int .i64 (k:Int))]∧cm=ls.length - k∧Ext w aU∧aR aU cw [.int .i64 0, .int .i64 0, .slice none 0 0, .slice none 0 0, .slice none 0 0, .slice none 0 0, .slice none 0 0, .int .i64 0, .int .i64 0] 28 (0,0)∧aR aU bJ (ah.cells oO kG) 28 (0,0)∧bq aU w.heap.size oO kG∧(k≤ls.length)∧(B9 W ls k kG M)∧(∀ q∈bq.bX oO,q=bJ→False)∧(∀ q∈bq.bX oO,q=cw→False)) _ _ ⟨0,a20,aoR, [],Z,Z,lp,ag,ab,(sP.down (by omega)),by omega,B9.start zk,(λ q I Φ=>by exfalso;(have:=Fu q I;omega)),(λ q I Φ=>by exfalso;(have:=Fu q I;omega))⟩ (.cons Z (.cons Z (.cons Z (.cons Z (.cons Z (.cons (bZ Z (by first | omega | rfl | (simp<;>omega))) .nil)))))) ?_;rintro uW ans BL ⟨k,oO,kG,M,rfl,rfl,k2,ag,b2,gl,ar,qO,aqN,UE⟩;have:=k2.size;have aB0:=ag.lt;have YF:=b2.lt;have IZ:=λ q I=>(gl.lt q I).2;refine aj<|J (blt Z Z)<|ai<|aA<| ?_;refine eg Z (λ K8=> ?_) (λ K8=> ?_)
   ·have WS:ls[k]? =some (ls.getD k ByteArray.empty):=dv (by omega);refine bt<|aA<|bM<|aj<|vm Z<|J (b' k underlying72 as8 Z Z ((az.keep k2).bR (ba k)) Z (by omega))<|J (ao Z (κ.aJ.gi avN ((az.keep k2).cu (ba k)) (dv (l:=ls) (u:=ByteArray.empty) (by omega)) Z as9))<|va Z<|va Z<|ai<|aj<|vm Z<|ca ata Z Z ((aAU (ls.getD k ByteArray.empty) _ (aDv az _ (ih (by omega)))).mono ?_);rintro e Nn ⟨jP,Q3,aGE,acI,Qe,rfl,OB,ji⟩;refine ⟨_,Z, ?_⟩;have:=ji.size;have qw:=γ k2 ji;have aQd:=λ q I=>(OB.lt q I).2;have aMR:=λ q I=>(OB.lt q I).1;have axs:=aCm Qe;have aw6:∀ o∈jP,o.ok:=aF.mj OB.has;refine vm Z<|J (ex Z Z)<|J (ex Z Z)<|va Z<|va Z<|ai<|aA<|aj<|vm Z<|J (bne Z Z)<|ai<| ?_;refine e1 Z (λ xE=> ?_) (λ xE=> ?_)
    ·refine aj<| ?_;have b2:=b2.later ji;refine J (ao Z (b2.all du cf))<|vm Z<| ?_;have ag:=ag.later ji;refine st Z Z ag Z cf Z Z Z λ F' gO ag=> ?_;have:=gO.size;have oD:=Ext.mod qw gO bu;refine va Z<|va Z<|ai<|rt<|bT<|e_<|bT<|nR<|e_<|bT<|bb (.cell Z (ag.all du cf) (.tmp Z (.tmp Z .nil)))<| ?_;have gl:=gl.later ji;have gl:=gl.mod gO (λ q I h=>by have Φ:=aRz.1 h;exfalso;(exact UE q I Φ));exact ⟨0,k,oO,kG,Z, .inl ⟨Z,⟨oZ,mO⟩,⟨by omega,M,qO, .inr λ m τ aa aw=>by rw [WS] at aw;have VT:=aRA aw;have VU:=(Yw τ aa (by rw [← VT];exact Qe)).1;exact absurd VU (by simpa using xE)⟩⟩,gl,oD⟩
    ·have oY:Q3=0:=by simpa using xE
     obtain ⟨lB,Xs⟩:=axs.1 oY;refine bt<|aj<| ?_;have b2:=b2.later ji;refine J (ao Z (b2.all du cf))<|vm Z<| ?_;have gl:=gl.later ji;refine ca UZ Z Z ((M9 oO kG _ _ jP _ gl.has OB.has).mono ?_);rintro e Jb ⟨xg,S7,apJ,S8,apK,S9,apL,rfl,nZ,abo,abp,abq,HP,iT⟩;refine ⟨_,Z, ?_⟩;have:=iT.size;have qy:=γ qw iT;have u_:=λ q I=>(nZ.lt q I).2;have Ic:=λ q I=>(nZ.lt q I).1;have BF:=λ q I=>(abo.lt q I).2;have Dc:=λ q I=>(abo.lt q I).1;have I1:=λ q I=>(abp.lt q I).2;have aMV:=λ q I=>(abp.lt q I).1;have Sh:=λ q I=>(abq.lt q I).2;have tr:=λ q I=>(abq.lt q I).1;have arf:∀ q∈κ.ae S7,q∈bq.bX xg→False:=λ q I=>HP q (.inl I);have aJg:∀ q∈bq.bX xg,q∈κ.ae S7→False:=λ q τ aa=>arf q aa τ;have arh:∀ q∈κ.ae S8,q∈bq.bX xg→False:=λ q I=>HP q (.inr (.inl I));have aJh:∀ q∈bq.bX xg,q∈κ.ae S8→False:=λ q τ aa=>arh q aa τ;have ari:∀ q∈κ.ae S9,q∈bq.bX xg→False:=λ q I=>HP q (.inr (.inr I));have aJi:∀ q∈bq.bX xg,q∈κ.ae S9→False:=λ q τ aa=>ari q aa τ;refine vm Z<|J (ex Z Z)<|J (ex Z Z)<|J (ex Z Z)<|al Z pQ Z Z λ amb aIp hG aMx B5=> ?_;have:=hG.size;have NR:=γ qy hG;have aO0:=B5.lt;refine al Z Hi Z Z λ Ga ape iF ayY nX=> ?_;have:=iF.size;have vx:=γ NR iF;have aB9:=nX.lt;have B5:=B5.later iF;refine st Z Z B5 Z cf Z Z Z λ aEX iy B5=> ?_;have:=iy.size;have Ju:=Ext.mod vx iy bu;have nX:=nX.mod iy aO;refine st (new:= [.slice S7 ((zM kG jP).length) apJ, .slice S8 ((zN kG jP).length) apK, .slice S9 ((zL kG jP).length) apL]) Z Z nX Z AO Z Z Z λ SD lF nX=> ?_;have:=lF.size;have z7:=Ext.mod Ju lF bu;refine va Z<|ai<|aA<|aj<|vm Z<|J (bne Z Z)<|ai<| ?_;refine e1 Z (λ EZ=> ?_) (λ EZ=> ?_)
     ·refine aj<| ?_;have b2:=b2.later (γ iT (γ hG iF));have b2:=b2.mod iy aO;have b2:=b2.mod lF aO;refine J (ao Z (b2.all du cf))<|vm Z<| ?_;have ag:=ag.later (γ ji (γ iT (γ hG iF)));have ag:=ag.mod iy aO;have ag:=ag.mod lF aO;refine st Z Z ag Z cf Z Z Z λ SF kp ag=> ?_;have:=kp.size;have B1:=Ext.mod z7 kp bu;refine va Z<|va Z<|ai<|rt<|bT<|e_<|bT<|nR<|e_<|bT<|bb (.cell Z (ag.all du cf) (.tmp Z (.tmp Z .nil)))<| ?_;have gl:=gl.later (γ iT (γ hG iF));have gl:=gl.mod iy (bL IZ);have gl:=gl.mod lF (bL IZ);have gl:=gl.mod kp (λ q I h=>by have Φ:=aRz.1 h;exfalso;(exact UE q I Φ));exact ⟨0,k,oO,kG,Z, .inl ⟨Z,⟨oZ,mO⟩,⟨by omega,M,qO, .inr λ m τ aa aw=>by rw [WS] at aw;have VT:=aRA aw;have VU:=(Yw τ aa (by rw [← VT];exact Qe)).2;rw [← VU];simpa using EZ⟩⟩,gl,B1⟩
     ·have Fk:h5 kG jP=0:=by simpa using EZ
      refine bt<|rg<| ?_;have B5:=B5.mod lF aO;refine J (ao Z (B5.all du cf))<| ?_;have b2:=b2.later (γ iT (γ hG iF));have b2:=b2.mod iy aO;have b2:=b2.mod lF aO;refine st Z Z b2 Z cf Z Z Z λ SH mV b2=> ?_;have:=mV.size;have B3:=Ext.mod z7 mV bu;refine nl<|b0<|aV<|rg<|J (bad Z Z (bE (by omega)))<|vm Z<|nl<| ?_;have ag:=ag.later (γ ji (γ iT (γ hG iF)));have ag:=ag.mod iy aO;have ag:=ag.mod lF aO;have ag:=ag.mod mV aO;have gl:=gl.later (γ iT (γ hG iF));have gl:=gl.mod iy (bL IZ);have gl:=gl.mod lF (bL IZ);have gl:=gl.mod mV (λ q I h=>by have Φ:=aRz.1 h;exfalso;(exact aqN q I Φ));have nZ:=nZ.later (γ hG iF);have nZ:=nZ.mod iy (bL u_);have nZ:=nZ.mod lF (bL u_);have nZ:=nZ.mod mV (bA Ic);exact c6 _ _ ⟨k+1,xg,ox kG jP,M++ [jP],Z,Z,B3,ag,b2,(nZ.down (by omega)),by omega,qO.next WS lB Xs aw6 Qe oY Fk,(λ q I Φ=>by exfalso;(have:=Ic q I;omega)),(λ q I Φ=>by exfalso;(have:=Ic q I;omega))⟩ (by omega) (.cons Z (.cons Z (.cons Z (.cons Z (.cons Z (.cons (bZ Z (by first | omega | rfl | (simp<;>omega))) .nil))))))
   ·refine dH<|dG<|ef<|dF<|aV<|aj<|J (ao Z (b2.all du cf))<|vm Z<|J (cA underlying72 Z)<|st Z Z ag Z cf Z Z Z λ Nx xY ag=> ?_;have:=xY.size;have rq:=Ext.mod k2 xY bu;refine va Z<|va Z<|ai<|rt<|bb (.cell Z (ag.all du cf) (.tmp Z (.tmp Z .nil)))<| ?_;have gl:=gl.mod xY (λ q I h=>by have Φ:=aRz.1 h;exfalso;(exact UE q I Φ));exact ⟨0,ls.length,oO,kG,Z, .inl ⟨Z,⟨oZ,mO⟩,⟨aRN _,M,(by rw [show ls.length=k by omega];exact qO), .inl Z⟩⟩,gl,rq⟩
theorem av6 (a:ah.b5) (W:ah) (A:Option Addr) (c:Nat) (ls:List ByteArray) (n:Nat) (w:World) (hn:ls.length=n) (bV:ah.Has w a W) (az:u1.aJ 16 w A c ls):Calls prog 33 #[.agg (ah.cells a W).toArray, .slice A n c] w (λ e w'=>∃ (e':Int) (k:Nat) (a':ah.b5) (V:ah),e= .returned (.tuple #[.agg (ah.cells a' V).toArray, .int .i64 (k:Int), .int .i64 e'])∧Tr W ls e' V k∧bq w' w.heap.size a' V∧Ext w w'):=by
 subst hn;exact av5 a W A c ls w bV az
end
section
open Go.Proofs.YtlikikpgmmkjbaaGreat.fc
theorem adN {x lI:cD} {c:gY} {e:Int} {s:ByteArray} (h:JF x c e s lI):s.size≤140737488351232:=by
 have aH:(ByteArray.empty).size≤140737488351232:=by decide
 rcases h with ⟨_,_,_,rfl⟩ | ⟨_,_,_,rfl⟩
 ·unfold AM;split
  ·exact amp _
  ·exact aH
 ·exact aH
def akY:cD:=wA kW 5
def aPk:gY:=⟨1,⟨0,3,1,⟨2,0⟩,0⟩,0,0⟩
def M3:cD:= {akY with S:= [⟨nS,0,false⟩]}
theorem ak1:oN kW []:=⟨by decide,by decide +kernel,rfl⟩
theorem akZ:D' akY:=⟨ak1,⟨by decide,by decide,λ i s h=>by
 match i,h with
 | 0,h=>obtain rfl:=aRA h;exact ⟨by decide,by decide⟩⟩,⟨Z,by decide +kernel⟩,by decide,by decide,by decide,λ i s h=>by
 match i,h with
 | 0,h=>obtain rfl:=aRA h;rfl⟩
theorem aC6:D' M3:=⟨ak1,⟨by decide,by decide,λ i s h=>by
 match i,h with
 | 0,h=>obtain rfl:=aRA h;exact ⟨by decide,by decide +kernel⟩⟩,⟨Z,by decide +kernel⟩,by decide,by decide,by decide,λ i s h=>by
 match i,h with
 | 0,h=>obtain rfl:=aRA h;rfl⟩
theorem Y7:pM M3.e2.toNat M3.S=([⟨[],0,false⟩],nS):=by decide +kernel
theorem aC7:J_ M3:=by
 unfold J_;rw [Y7];exact ⟨by decide,Zl.1⟩
theorem azi {a_ bj cV jK:Int} {fw fa iR:cD} {s2 MV:ByteArray} {V:ah} {k:Nat} (τ:abj kW 5 a_ fw) (aa:JF fw ⟨1,⟨0,3,1,⟨2,0⟩,0⟩,0,0⟩ bj s2 fa) (aw:JF fa ⟨2,⟨0,0,0,⟨0,0⟩,0⟩,0,0⟩ cV MV iR) (a1:Tr kW [MV] jK V k):
  a_=0∧bj=0∧cV=0∧jK=0∧k=1∧iR.L.length=1∧V=Zh:=by
 obtain ⟨cd,_,rfl⟩:=τ.resolve_right λ h=>h.2.1 ⟨by decide +kernel,by decide,by decide⟩;obtain ⟨a2,_,a3,_⟩:=aa.resolve_right λ h=>h.2.1 ⟨akZ, .inl ⟨rfl,akZ.2.1,by decide +kernel,⟨[],0,false⟩,rfl,rfl,by decide⟩⟩;have a4:fa=M3:=by rw [a3,Pv rfl];rfl
 subst a4;obtain ⟨a5,_,Kb,OO⟩:=aw.resolve_right λ h=>h.2.1 ⟨aC6, .inr (.inl ⟨rfl,aC7⟩)⟩;rw [Pw rfl] at Kb;rw [UP rfl,Y7] at OO;obtain ⟨OP,_,a9⟩:=a1.resolve_right λ h=>h.2.1 ⟨by simp,by decide +kernel⟩;have kK:∀ m∈ [nS],hC m=0∧∀ o∈m,o.ok:=λ m hm=>by
  rw [aRz.1 hm];exact ⟨by decide +kernel,λ o bS=>by rw [aRz.1 bS];exact ⟨bI.2 (by decide),bI.2 (by decide),bI.2 (by decide),bI.2 (by decide),bI.2 (by decide),bI.2 (by decide)⟩⟩
 rw [OO] at a9;obtain ⟨mI,fz⟩:=at4 (L:= [nS]) a9 kK (by rw [RP];exact Zl.1);exact ⟨cd,a2,a5,OP,mI,by rw [Kb];unfold M1;rw [Y7];rfl,by rw [fz];exact Zl.2.1⟩
theorem agM  (w:World):
  Calls prog 34 #[] w (λ e w'=>e= .returned (.bool true)∧Ext w w'):=by
 refine ch (n:=78) func34 Z Z Z ?_;refine aj<|va Z<|ai<|aj<|ca aej Z Z ((ak0 _).mono ?_);rintro e al8 ⟨aoU,rfl,Ty,nU⟩;refine ⟨_,Z, ?_⟩;have:=nU.size;have NP:=γ (Ext.bF w) nU;have Zo:=λ q I=>(Ty.lt q I).2;have Rc:=λ q I=>(Ty.lt q I).1;refine ca aek Z Z ((agB aoU kW 5 _ Ty.has).mono ?_);rintro e eK ⟨aGS,ed,rb,rfl,axn,Eb,cG⟩;refine ⟨_,Z, ?_⟩;have:=cG.size;have bQ:=γ NP cG;have aDQ:=λ q I=>(Eb.lt q I).2;have aLG:=λ q I=>(Eb.lt q I).1;refine vm Z<|J (ex Z Z)<|J (ex Z Z)<|al Z CL Z Z λ tK xh c' H' eV=> ?_;have:=c'.size;have jj:=γ bQ c';have MO:=eV.lt;refine st Z Z eV Z eb Z Z Z λ vd nH eV=> ?_;have:=nH.size;have ik:=Ext.mod jj nH bu;refine va Z<|ai<|aj<|J (ao Z (eV.all h_ eb))<|J (v:= .agg #[.int .i64 2, .int .i64 0]) (cK Z (by kernel_rfl))<|J (v:= .agg #[.int .i64 0, .int .i64 3, .int .i64 1, .int .i64 2, .int .i64 0, .int .i64 0]) (cK Z (by kernel_rfl))<|J (v:= .agg #[.int .i64 1, .int .i64 0, .int .i64 3, .int .i64 1, .int .i64 2, .int .i64 0, .int .i64 0, .int .i64 0, .int .i64 0]) (cK Z (by kernel_rfl))<| ?_;have Eb:=Eb.later c';have Eb:=Eb.mod nH (bL aDQ);refine ca U6 Z Z ((WE ed rb (⟨1,⟨0,3,1,⟨2,0⟩,0⟩,0,0⟩:gY) _ Eb.has ⟨bI.2 (by decide),bI.2 (by decide),bI.2 (by decide),bI.2 (by decide),bI.2 (by decide),bI.2 (by decide)⟩).mono ?_);rintro e yk ⟨aGO,aPh,fJ,aFd,rfl,axl,c8,dW⟩;refine ⟨_,Z, ?_⟩;have:=dW.size;have ke:=γ ik dW;have u5:=λ q I=>(c8.lt q I).2;have xW:=λ q I=>(c8.lt q I).1;refine vm Z<|J (ex Z Z)<|J (ex Z Z)<|J (ex Z Z)<| ?_;have eV:=eV.later dW;refine st Z Z eV Z eb Z Z Z λ BI hj eV=> ?_;have:=hj.size;have qu:=Ext.mod ke hj bu;refine va Z<|va Z<|ai<|aj<|J (ao Z (eV.all h_ eb))<|J (v:= .agg #[.int .i64 2, .int .i64 0, .int .i64 0, .int .i64 0, .int .i64 0, .int .i64 0, .int .i64 0, .int .i64 0, .int .i64 0]) (cK Z (by kernel_rfl))<| ?_;have c8:=c8.mod hj (λ q I h=>by have Φ:=aRz.1 h;exfalso;(have:=xW q I;omega));refine ca U6 Z Z ((WE fJ aFd (⟨2,⟨0,0,0,⟨0,0⟩,0⟩,0,0⟩:gY) _ c8.has ⟨bI.2 (by decide),bI.2 (by decide),bI.2 (by decide),bI.2 (by decide),bI.2 (by decide),bI.2 (by decide)⟩).mono ?_);rintro e tN ⟨Tk,RS,hO,vk,rfl,agY,fX,dc⟩;refine ⟨_,Z, ?_⟩;have:=dc.size;have iG:=γ qu dc;have qi:=λ q I=>(fX.lt q I).2;have ayF:=λ q I=>(fX.lt q I).1;refine vm Z<|J (ex Z Z)<|J (ex Z Z)<|J (ex Z Z)<| ?_;have eV:=eV.later dc;refine st Z Z eV Z eb Z Z Z λ F9 j' eV=> ?_;have:=j'.size;have rk:=Ext.mod iG j' bu;refine va Z<|va Z<|ai<|aj<|ca aej Z Z ((ak0 _).mono ?_);rintro e Nj ⟨aoV,rfl,JS,iC⟩;refine ⟨_,Z, ?_⟩;have:=iC.size;have yw:=γ rk iC;have aD4:=λ q I=>(JS.lt q I).2;have XZ:=λ q I=>(JS.lt q I).1;refine vm Z<|cX (e:= 9) (cs:= [.string RS]) Z (λ _=>by kernel_rfl) Z λ Nl Ud fV ayU pw=> ?_;have:=fV.size;have pj:=γ yw fV;have aB2:=pw.lt;have JS:=JS.later fV;refine ca atb Z Z ((av6 aoV kW _ _ ([RS]) 1 _ (by simp) JS.has (aR.Lc (R:=u1) (by_:=16) (k:= [RS]) pw [[.string RS]] Z (⟨⟨Z,(adN agY)⟩,trivial⟩) (by simp) (by simp))).mono ?_);rintro e ama ⟨aaT,aLn,a51,aoT,rfl,QP,Ca,wR⟩;refine ⟨_,Z, ?_⟩;have:=wR.size;have NQ:=γ pj wR;have alH:=λ q I=>(Ca.lt q I).2;have X0:=λ q I=>(Ca.lt q I).1;refine vm Z<|J (ex Z Z)<|J (ex Z Z)<|J (ex Z Z)<|al Z pQ Z Z λ qk apc hU ayW B4=> ?_;have:=hU.size;have hH:=γ NQ hU;have akh:=B4.lt;refine st Z Z B4 Z cf Z Z Z λ Nt nJ B4=> ?_;have:=nJ.size;have qx:=Ext.mod hH nJ bu;refine va Z<|va Z<|ai<|aj<|vm Z<|J (beq Z Z)<|vm Z<|bp Z Z Z Z (λ hc=>aM Z) Z<|bp Z Z Z Z (λ hc=>beq (gt hc Z) Z) Z<|J (e3 Z Z Z Z)<|vm Z<|bp Z Z Z Z (λ hc=>aM Z) Z<|bp Z Z Z Z (λ hc=>beq (gt hc Z) Z) Z<|J (e3 Z Z Z Z)<|vm Z<|bp Z Z Z Z (λ hc=>aM Z) Z<|bp Z Z Z Z (λ hc=>beq (gt hc Z) Z) Z<|J (e3 Z Z Z Z)<|vm Z<|bp Z Z Z Z (λ hc=>aM Z) Z<|bp Z Z Z Z (λ hc=>beq (gt hc Z) Z) Z<|J (e3 Z Z Z Z)<| ?_;refine vm Z<|bp Z Z Z Z (λ hc=>av zc Z) Z<|bp Z Z Z Z (λ hc=>av uF (gt hc Z)) Z<| ?_;have eV:=eV.later (γ iC (γ fV (γ wR hU)));have eV:=eV.mod nJ aO;refine bp Z Z Z Z (λ hc=>ao (gt hc Z) (eV.one za Z)) Z<|bp Z Z Z Z (λ hc=>cA underlying29 (gt hc Z)) Z<|bp Z Z Z Z (λ hc=>beq (gt hc Z) Z) Z<|J (e3 Z Z Z Z)<|vm Z<|bp Z Z Z Z (λ hc=>av kI Z) Z<|bp Z Z Z Z (λ hc=>ao (gt hc Z) (B4.one mM Z)) Z<|bp Z Z Z Z (λ hc=>cA underlying26 (gt hc Z)) Z<|bp Z Z Z Z (λ hc=>beq (gt hc Z) Z) Z<|J (e3 Z Z Z Z)<|vm Z<|bp Z Z Z Z (λ hc=>av kI Z) Z<|bp Z Z Z Z (λ hc=>ao (gt hc Z) (B4.one mM Z)) Z<| ?_;have Ca:=Ca.later hU;have Ca:=Ca.mod nJ (bL alH);refine bp Z Z Z Z (λ hc=>b' 0 underlying26 lU (gt hc Z) Z (Ca.T.has.bR (ba 0 (by have:=hc;simp only [aRI,aSC,aVl] at this;omega))) Z (by have:=hc;simp only [aRI,aSC,aVl] at this;omega)) Z<|bp Z Z Z Z (λ hc=>av AN (gt hc Z)) Z<|bp Z Z Z Z (λ hc=>ao (gt hc Z) (κ.aJ.j7 j9 (Ca.T.has.cu (ba 0 (by have:=hc;simp only [aRI,aSC,aVl] at this;omega))) 6 (dv (l:=aoT.ak) (u:=default) (j:=0) (by have:=hc;simp only [aRI,aSC,aVl] at this;omega)) Z bc)) Z<|bp Z Z Z Z (λ hc=>beq (gt hc Z) Z) Z<|J (e3 Z Z Z Z)<|va Z<|ai<|rt<|bb (.tmp Z .nil)<| ?_;obtain ⟨f1,f2,f3,f4,f5,f6,f7⟩:=azi axn axl agY QP;have f8:hO.T.length=1:=by have:=fX.L.1;omega
 exact ⟨akv (by rw [f7];simp [f1,f2,f3,f4,f5,f8];decide),qx⟩
end
section
theorem an7:eC prog u1 72 9 16:=eC.kT (z:= .string .empty) (k:=1) underlying72 ayi rfl rfl (by decide) (λ j u h=>aCj j u h)
theorem an6:eC prog aF.rep 44 51 48:=eC.kT (z:=aF.zero) (k:=6) underlying44 aF.info rfl rfl (by decide) aF.h8
open Go.Proofs.YtlikikpgmmkjbaaGreat.fc
theorem avL {w:World} {cs:List Value} {a:gY} (h:gY.rep.has w cs a):cs=a.cells:=aTI (show cs=a.cells∧a.ok from h)
theorem acL {c:gY} (h:c.ok):c.o.ok:=⟨h.2.1,h.2.2.1,h.2.2.2.1,h.2.2.2.2.1,h.2.2.2.2.2.1,h.2.2.2.2.2.2.1⟩
open Classical in
noncomputable def uZ (y:cD×List ByteArray×List aF) (c:gY):cD×List ByteArray×List aF:=if y9 y.1 c then (xt y.1 c,if c.kind=2 then y.2.1++ [AM y.1 c] else y.2.1,if c.kind=1 then y.2.2++ [c.o] else y.2.2) else y
noncomputable def qf (x:cD) (l:List gY):cD×List ByteArray×List aF:=l.foldl uZ (x, [], [])
section
variable {x l' lI:cD} {l:List gY} {k:Nat} {ow:List ByteArray} {oq:List aF} {e:Int} {s:ByteArray}
theorem RB (ar:k<l.length):qf x (l.take (k+1))=uZ (qf x (l.take k)) (l.getD k default):=by
 unfold qf;rw [wK (d:=default) ar,aTd];rfl
theorem aBg (he:e≠0) (h:JF l' (l.getD k default) e s lI) (hp:qf x (l.take k)=(l',ow,oq)) (ar:k<l.length:=by omega):qf x (l.take (k+1))=(l',ow,oq):=by
 rw [RB ar,hp];exact aRL (h.resolve_left λ h=>absurd h.1 he).2.1
theorem aBi (h:y9 l' (l.getD k default)) (τ:lI=xt l' (l.getD k default)) (aa:s=AM l' (l.getD k default)) (aw:(l.getD k default).kind=2) (_:(l.getD k default).kind≠1) (hp:qf x (l.take k)=(l',ow,oq)) (ar:k<l.length:=by omega):qf x (l.take (k+1))=(lI,ow++ [s],oq):=by
 rw [RB ar,hp,τ,aa];unfold uZ;rw [aRP h,aRP aw,aRL (by omega)]
theorem aBh (h:y9 l' (l.getD k default)) (τ:lI=xt l' (l.getD k default)) (aa:s=AM l' (l.getD k default)) (_:(l.getD k default).kind≠2) (aw:(l.getD k default).kind=1) (hp:qf x (l.take k)=(l',ow,oq)) (ar:k<l.length:=by omega):qf x (l.take (k+1))=(lI,ow,oq++ [(l.getD k default).o]):=by
 rw [RB ar,hp,τ];unfold uZ;rw [aRP h,aRL (by omega),aRP aw]
theorem aBf (h:y9 l' (l.getD k default)) (τ:lI=xt l' (l.getD k default)) (aa:s=AM l' (l.getD k default)) (aw:(l.getD k default).kind≠2) (a1:(l.getD k default).kind≠1) (hp:qf x (l.take k)=(l',ow,oq)) (ar:k<l.length:=by omega):qf x (l.take (k+1))=(lI,ow,oq):=by
 rw [RB ar,hp,τ];unfold uZ;rw [aRP h,aRL aw,aRL a1]
end
theorem axf (aC:Nat) (aY:kg) (Hx:cD) (A:Option Addr) (c:Nat) (l:List gY) (w:World) (s9:aC≤w.heap.size) (ct:dr w aC aY Hx) (az:gY.rep.aJ 72 w A c l):
  Calls prog 41 #[.agg ((cD.cells aY Hx).toArray), .slice A l.length c] w (λ e w'=>∃ (cI:kg) (lI:cD) (b5:Option Addr) (y6:Nat) (t:List ByteArray) (oF:Option Addr) (y5:Nat) (q:List aF),e= .returned (.tuple #[.agg (cD.cells cI lI).toArray, .slice b5 t.length y6, .slice oF q.length y5])∧qf Hx l=(lI,t,q)∧dr w' aC cI lI∧(∀ q∈dr.bX cI,q∈dr.bX aY∨w.heap.size≤q)∧u1.aD 9 16 w' w.heap.size (κ.ae b5) b5 y6 t∧aF.rep.aD 51 48 w' w.heap.size (κ.ae oF) oF y5 q∧Ext w w'):=by
 have oc:=az.ez;have ago:=az.2.2.1;have BD:=λ q I=>(ct.lt q I).2;have aiI:=λ q I=>(ct.lt q I).1;refine ch (n:=49) func41 Z Z Z ?_;refine aj<|cB Z Z Z Z λ cv bJ a7 ee ab=> ?_;have:=a7.size;have bg:=γ (Ext.bF w) a7;have ei:=ab.lt;refine al Z CL Z Z λ eK cw bl ie ag=> ?_;have:=bl.size;have bQ:=γ bg bl;have h3:=ag.lt;refine va Z<|va Z<|ai<|aj<|va Z<|ai<|aj<|va Z<|ai<|aA<|aj<|vm Z<|J (cA underlying95 Z)<|vm Z<|ai<|bM<| ?_;have ct:=ct.later (γ a7 bl);have ab:=ab.later bl;refine e8 (λ cm cl aU=>∃ k:Nat,∃ ar:kg,∃ l':cD,∃ ow:List ByteArray,∃ b5:Option Addr,∃ y6:Nat,∃ oq:List aF,∃ oF:Option Addr,∃ y5:Nat,cl= [(2, .pointer (some ⟨bJ,0,none⟩)),(4, .pointer (some ⟨cw,0,none⟩)),(5, .slice none 0 0),(6, .slice none 0 0),(7, .slice b5 ow.length y6),(8, .slice oF oq.length y5),(14, .slice A l.length c),(15, .int .i64 (l.length:Int)),(16, .int .i64 (k:Int))]∧cm=l.length - k∧Ext w aU∧aR aU cw [.int .i64 0, .int .i64 0, .slice none 0 0, .slice none 0 0, .slice none 0 0, .slice none 0 0, .slice none 0 0, .int .i64 0, .int .i64 0, .slice none 0 0, .slice none 0 0, .int .u32 0, .slice none 0 0, .int .i64 0] 85 (0,0)∧aR aU bJ (cD.cells ar l') 85 (0,0)∧u1.aD 9 16 aU w.heap.size (κ.ae b5) b5 y6 ow∧aF.rep.aD 51 48 aU w.heap.size (κ.ae oF) oF y5 oq∧dr aU aC ar l'∧(k≤l.length)∧(qf Hx (l.take k)=(l',ow,oq))∧(ow.length≤k)∧(oq.length≤k)∧(∀ q∈dr.bX ar,q∈dr.bX aY∨w.heap.size≤q)∧(∀ q∈dr.bX ar,q=bJ→False)∧(∀ q∈dr.bX ar,q=cw→False)∧(∀ q∈dr.bX ar,q∈κ.ae b5→False)∧(∀ q∈dr.bX ar,q∈κ.ae oF→False)∧(∀ q∈κ.ae b5,q=cw→False)∧(∀ q∈κ.ae b5,q=bJ→False)∧(∀ q∈κ.ae oF,q=cw→False)∧(∀ q∈κ.ae oF,q=bJ→False)∧(∀ q∈κ.ae oF,q∈κ.ae b5→False)) _ _ ⟨0,aY,Hx, [],none,0, [],none,0,Z,Z,bQ,ag,ab,(κ.aD.nil _),(κ.aD.nil _),ct,by omega,rfl,by simp,by simp,λ q I=> .inl I,λ q I Φ=>by exfalso;(have:=BD q I;omega),λ q I Φ=>by exfalso;(have:=BD q I;omega),λ q τ aa=>by simp [κ.ae] at aa,λ q τ aa=>by simp [κ.ae] at aa,(λ q I Φ=>by (simp [κ.ae] at I)),(λ q I Φ=>by (simp [κ.ae] at I)),(λ q I Φ=>by (simp [κ.ae] at I)),(λ q I Φ=>by (simp [κ.ae] at I)),(λ q I Φ=>by (simp [κ.ae] at I))⟩ (.cons Z (.cons Z (.cons Z (.cons Z (.cons Z (.cons Z (.cons Z (.cons Z (.cons (bZ Z (by first | omega | rfl | (simp<;>omega))) .nil))))))))) ?_;rintro Bo anr yj ⟨k,ar,l',ow,b5,y6,oq,oF,y5,rfl,rfl,kB,ag,b2,eX,eW,gz,WU,nB,axD,W',ac4,Pn,ac1,ac3,ac2,Hb,xq,Hc,CE,CF⟩;have:=kB.size;have ake:=ag.lt;have aBT:=b2.lt;have lf:=λ q I=>(eX.lt q I).2;have iz:=λ q I=>(eW.lt q I).2;have aJF:∀ q∈κ.ae b5,w.heap.size≤q:=λ q I=>(eX.lt q I).1;have aJE:∀ q∈κ.ae oF,w.heap.size≤q:=λ q I=>(eW.lt q I).1;have Na:=λ q I=>(gz.lt q I).2;have aLI:=λ q I=>(gz.lt q I).1;refine aj<|J (blt Z Z)<|ai<|aA<| ?_;refine eg Z (λ Wh=> ?_) (λ Wh=> ?_)
 ·refine bt<|aA<|bM<|aj<|J (b' k underlying95 PK Z Z ((az.keep kB).bR (ba k)) Z (by omega))<|J (ao Z (κ.aJ.ho avL ((az.keep kB).cu (ba k)) (dv (l:=l) (u:=default) (by omega)) ael PK))<|al Z atc Z Z λ tM G5 fQ aiQ jk=> ?_;have:=fQ.size;have hX:=γ kB fQ;have aBX:=jk.lt;refine st (new:= [.int .i64 ((l.getD k default).kind), .int .i64 ((l.getD k default).o.by_), .int .i64 ((l.getD k default).o.kind), .int .i64 ((l.getD k default).o.aQ), .int .i64 ((l.getD k default).o.spot.x), .int .i64 ((l.getD k default).o.spot.y), .int .i64 ((l.getD k default).o.what), .int .i64 ((l.getD k default).by_), .int .i64 ((l.getD k default).sat)]) Z Z jk Z PK Z Z Z λ I8 oh jk=> ?_;have:=oh.size;have sG:=Ext.mod hX oh bu;refine ai<|aj<| ?_;have b2:=b2.later fQ;have b2:=b2.mod oh aO;refine J (ao Z (b2.all h_ eb))<|J (ao Z (jk.all ael PK))<| ?_;have gz:=gz.later fQ;have gz:=gz.mod oh (bL Na);refine ca U6 Z Z ((WE ar l' (l.getD k default) _ gz.has (acL (gY.mj az _ (ih (by omega))))).mono ?_);rintro e Nj ⟨aGR,YX,VS,ZP,rfl,Xb,iV,iC⟩;refine ⟨_,Z, ?_⟩;have:=iC.size;have yw:=γ sG iC;have M_:=λ q I=>(iV.lt q I).2;have nE:=λ q I=>(iV.lt q I).1;refine vm Z<|J (ex Z Z)<|J (ex Z Z)<|J (ex Z Z)<|al Z CL Z Z λ Nl Ud fV ayU pw=> ?_;have:=fV.size;have pj:=γ yw fV;have aB2:=pw.lt;refine st Z Z pw Z eb Z Z Z λ Np hB pw=> ?_;have:=hB.size;have tY:=Ext.mod pj hB bu;refine va Z<|va Z<|ai<|aA<|aj<|vm Z<|J (bne Z Z)<|ai<| ?_;refine e1 Z (λ Wl=> ?_) (λ Wl=> ?_)
  ·have W_:=aBg (by simpa using Wl) Xb nB;refine dH<|dG<|dF<|aV<|rg<|J (bad Z Z (bE (by omega)))<|vm Z<|nl<| ?_;have ag:=ag.later fQ;have ag:=ag.mod oh aO;have ag:=ag.later (γ iC fV);have ag:=ag.mod hB aO;have b2:=b2.later (γ iC fV);have b2:=b2.mod hB aO;have eX:=eX.later fQ;have eX:=eX.mod oh (bL lf);have eX:=eX.later (γ iC fV);have eX:=eX.mod hB (bL lf);have eW:=eW.later fQ;have eW:=eW.mod oh (bL iz);have eW:=eW.later (γ iC fV);have eW:=eW.mod hB (bL iz);have gz:=gz.later (γ iC fV);have gz:=gz.mod hB (bL Na);exact c6 _ _ ⟨k+1,ar,l',ow,b5,y6,oq,oF,y5,Z,Z,tY,ag,b2,eX,eW,gz,by omega,W_,by first | omega | (rw [aRH,aSf];omega),by first | omega | (rw [aRH,aSf];omega),ac4,λ q I Φ=>by exfalso;(exact Pn q I Φ),λ q I Φ=>by exfalso;(exact ac1 q I Φ),λ q τ aa=>by exfalso;(exact ac3 q τ aa),λ q τ aa=>by exfalso;(exact ac2 q τ aa),(λ q I Φ=>by (exact Hb q I Φ)),(λ q I Φ=>by (exact xq q I Φ)),(λ q I Φ=>by (exact Hc q I Φ)),(λ q I Φ=>by (exact CE q I Φ)),(λ q I Φ=>by (exact CF q I Φ))⟩ (by omega) (.cons Z (.cons Z (.cons Z (.cons Z (.cons Z (.cons Z (.cons Z (.cons Z (.cons (bZ Z (by first | omega | rfl | (simp<;>omega))) .nil)))))))))
  ·obtain ⟨_,W6,Xu,Xg⟩:=Xb.resolve_right λ bd=>bd.1 (by simpa using Wl);refine bt<|aA<|aj<|J (av PJ Z)<| ?_;have jk:=jk.later (γ iC fV);have jk:=jk.mod hB aO;refine J (ao Z (jk.one bc Z))<|J (beq Z Z)<|ai<| ?_;refine i' Z (λ K_=> ?_) (λ K_=> ?_)
   ·refine rg<|vm Z<|vm Z<|cX (e:= 9) (cs:= [.string YX]) Z (λ _=>by kernel_rfl) Z λ qk apc hU ayW B4=> ?_;have:=hU.size;have hH:=γ tY hU;have akh:=B4.lt;have eX:=eX.later fQ;have eX:=eX.mod oh (bL lf);have eX:=eX.later (γ iC fV);have eX:=eX.mod hB (bL lf);have eX:=eX.later hU;refine ap an7 aCs eX (aR.gB (R:=u1) (by_:=16) (q:=YX) B4 ⟨Z,(adN Xb)⟩ (by decide)) Z Z (by simp only [aRG,aRM];omega) (by simp only [aRG,aRM];omega) (by omega) Z λ Nt am5 ap6 q5 OD KQ aNN=> ?_;have:=q5.size;have qx:=Ext.mod hH q5 (λ q I=>aR5 (by omega) (eX.lt q I).1);have sx:=λ q I=>(OD.lt q I).2;have:=q5.size;refine va Z<|ai<|aA<|aj<|J (av PJ Z)<| ?_;have jk:=jk.later hU;have aq4:∀ q∈κ.ae b5,q=G5→False:=λ q I Φ=>by (have:=lf q I;omega)
    have jk:=jk.mod q5 (λ I=>aq4 _ I rfl);refine J (ao Z (jk.one bc Z))<|J (beq Z Z)<|ai<| ?_;refine i' Z (λ s_=> ?_) (λ s_=> ?_)
    ·exfalso;omega
    ·refine bt<|rg<| ?_;have pw:=pw.later hU;have aq6:∀ q∈κ.ae b5,q=Ud→False:=λ q I Φ=>by (have:=lf q I;omega)
     have pw:=pw.mod q5 (λ I=>aq6 _ I rfl);refine J (ao Z (pw.all h_ eb))<| ?_;have b2:=b2.later (γ iC fV);have b2:=b2.mod hB aO;have b2:=b2.later hU;have b2:=b2.mod q5 (λ I=>xq _ I rfl);refine st Z Z b2 Z eb Z Z Z λ Nw o7 b2=> ?_;have:=o7.size;have rp:=Ext.mod qx o7 bu;refine nl<|b0<|aV<|rg<|J (bad Z Z (bE (by omega)))<|vm Z<|nl<| ?_;have ag:=ag.later fQ;have ag:=ag.mod oh aO;have ag:=ag.later (γ iC fV);have ag:=ag.mod hB aO;have ag:=ag.later hU;have ag:=ag.mod q5 (λ I=>Hb _ I rfl);have ag:=ag.mod o7 aO;have OD:=OD.mod o7 (λ q I h=>by have Φ:=aRz.1 h;exfalso;(exact aRO (KQ q I) (λ xV=>by (exact xq q xV Φ)) (λ xV=>by omega)));have eW:=eW.later fQ;have eW:=eW.mod oh (bL iz);have eW:=eW.later (γ iC fV);have eW:=eW.mod hB (bL iz);have eW:=eW.later hU;have eW:=eW.mod q5 (λ q I h=>by exfalso;(exact CF q I h));have eW:=eW.mod o7 (λ q I h=>by have Φ:=aRz.1 h;exfalso;(exact CE q I Φ));have gz:=gz.later (γ iC fV);have gz:=gz.mod hB (bL Na);have gz:=gz.later hU;have gz:=gz.mod q5 (λ q I h=>by exfalso;(exact ac3 q I h));have gz:=gz.mod o7 (λ q I h=>by have Φ:=aRz.1 h;exfalso;(exact Pn q I Φ));have iV:=iV.later fV;have iV:=iV.mod hB (bL M_);have iV:=iV.later hU;have iV:=iV.mod q5 (λ q I h=>by exfalso;(have:=nE q I;(have:=lf q h;omega)));have iV:=iV.mod o7 (λ q I h=>by have Φ:=aRz.1 h;exfalso;(have:=nE q I;omega));exact c6 _ _ ⟨k+1,VS,ZP,ow++ [YX],am5,ap6,oq,oF,y5,Z,Z,rp,ag,b2,OD,eW,(iV.down (by omega)),by omega,aBi W6 Xu Xg (by omega) (by omega) nB,by first | omega | (rw [aRH,aSf];omega),by first | omega | (rw [aRH,aSf];omega),λ q I=> .inr (by have:=nE q I;omega),λ q I Φ=>by exfalso;(have:=nE q I;omega),λ q I Φ=>by exfalso;(have:=nE q I;omega),λ q τ aa=>by exfalso;(exact aRO (KQ q aa) (λ Mi=>by (have:=nE q τ;(have:=lf q Mi;omega))) (λ Mi=>by (have:=M_ q τ;omega))),λ q τ aa=>by exfalso;(have:=nE q τ;(have:=iz q aa;omega)),(λ q I Φ=>by (exact aRO (KQ q I) (λ Da=>by (exact Hb q Da Φ)) (λ Da=>by omega))),(λ q I Φ=>by (exact aRO (KQ q I) (λ Mj=>by (exact xq q Mj Φ)) (λ Mj=>by omega))),(λ q I Φ=>by (exact Hc q I Φ)),(λ q I Φ=>by (exact CE q I Φ)),(λ q I Φ=>by (exact aRO (KQ q Φ) (λ aix=>by (exact CF q I aix)) (λ aix=>by (have:=iz q I;omega))))⟩ (by omega) (.cons Z (.cons Z (.cons Z (.cons Z (.cons Z (.cons Z (.cons Z (.cons Z (.cons (bZ Z (by first | omega | rfl | (simp<;>omega))) .nil)))))))))
   ·refine bt<|aA<|aj<|J (av PJ Z)<|J (ao Z (jk.one bc Z))<|J (beq Z Z)<|ai<| ?_;refine i' Z (λ v_=> ?_) (λ v_=> ?_)
    ·refine rg<|vm Z<|J (av aei Z)<|J (ao Z (jk.par [.int .i64 ((l.getD k default).o.by_), .int .i64 ((l.getD k default).o.kind), .int .i64 ((l.getD k default).o.aQ), .int .i64 ((l.getD k default).o.spot.x), .int .i64 ((l.getD k default).o.spot.y), .int .i64 ((l.getD k default).o.what)] hN dN Z))<|cX (e:= 51) (cs:= [.int .i64 ((l.getD k default).o.by_), .int .i64 ((l.getD k default).o.kind), .int .i64 ((l.getD k default).o.aQ), .int .i64 ((l.getD k default).o.spot.x), .int .i64 ((l.getD k default).o.spot.y), .int .i64 ((l.getD k default).o.what)]) Z (λ _=>by kernel_rfl) Z λ Gb apg ll ayZ D3=> ?_;have:=ll.size;have kf:=γ tY ll;have aCa:=D3.lt;have eW:=eW.later fQ;have eW:=eW.mod oh (bL iz);have eW:=eW.later (γ iC fV);have eW:=eW.mod hB (bL iz);have eW:=eW.later ll;refine ap an6 κ.di eW (aR.gB (R:=aF.rep) (by_:=48) (q:=(l.getD k default).o) D3 ⟨Z,(acL (gY.mj az _ (ih (by omega))))⟩ (by decide)) Z Z (by simp only [aRG,aRM];omega) (by simp only [aRG,aRM];omega) (by omega) Z λ Jf ane aqf Bs OH KS aNk=> ?_;have:=Bs.size;have t_:=Ext.mod kf Bs (λ q I=>aR5 (by omega) (eW.lt q I).1);have aPL:=λ q I=>(OH.lt q I).2;have:=Bs.size;refine va Z<|ai<|rg<| ?_;have pw:=pw.later ll;have aqQ:∀ q∈κ.ae oF,q=Ud→False:=λ q I Φ=>by (have:=iz q I;omega)
     have pw:=pw.mod Bs (λ I=>aqQ _ I rfl);refine J (ao Z (pw.all h_ eb))<| ?_;have b2:=b2.later (γ iC fV);have b2:=b2.mod hB aO;have b2:=b2.later ll;have b2:=b2.mod Bs (λ I=>CE _ I rfl);refine st Z Z b2 Z eb Z Z Z λ aEJ Fz b2=> ?_;have:=Fz.size;have ZU:=Ext.mod t_ Fz bu;refine nl<|b0<|aV<|rg<|J (bad Z Z (bE (by omega)))<|vm Z<|nl<| ?_;have ag:=ag.later fQ;have ag:=ag.mod oh aO;have ag:=ag.later (γ iC fV);have ag:=ag.mod hB aO;have ag:=ag.later ll;have ag:=ag.mod Bs (λ I=>Hc _ I rfl);have ag:=ag.mod Fz aO;have eX:=eX.later fQ;have eX:=eX.mod oh (bL lf);have eX:=eX.later (γ iC fV);have eX:=eX.mod hB (bL lf);have eX:=eX.later ll;have eX:=eX.mod Bs (λ q I h=>by exfalso;(exact CF q h I));have eX:=eX.mod Fz (λ q I h=>by have Φ:=aRz.1 h;exfalso;(exact xq q I Φ));have OH:=OH.mod Fz (λ q I h=>by have Φ:=aRz.1 h;exfalso;(exact aRO (KS q I) (λ ahl=>by (exact CE q ahl Φ)) (λ ahl=>by omega)));have gz:=gz.later (γ iC fV);have gz:=gz.mod hB (bL Na);have gz:=gz.later ll;have gz:=gz.mod Bs (λ q I h=>by exfalso;(exact ac2 q I h));have gz:=gz.mod Fz (λ q I h=>by have Φ:=aRz.1 h;exfalso;(exact Pn q I Φ));have iV:=iV.later fV;have iV:=iV.mod hB (bL M_);have iV:=iV.later ll;have iV:=iV.mod Bs (λ q I h=>by exfalso;(have:=nE q I;(have:=iz q h;omega)));have iV:=iV.mod Fz (λ q I h=>by have Φ:=aRz.1 h;exfalso;(have:=nE q I;omega));exact c6 _ _ ⟨k+1,VS,ZP,ow,b5,y6,oq++ [(l.getD k default).o],ane,aqf,Z,Z,ZU,ag,b2,eX,OH,(iV.down (by omega)),by omega,aBh W6 Xu Xg (by omega) (by omega) nB,by first | omega | (rw [aRH,aSf];omega),by first | omega | (rw [aRH,aSf];omega),λ q I=> .inr (by have:=nE q I;omega),λ q I Φ=>by exfalso;(have:=nE q I;omega),λ q I Φ=>by exfalso;(have:=nE q I;omega),λ q τ aa=>by exfalso;(have:=nE q τ;(have:=lf q aa;omega)),λ q τ aa=>by exfalso;(exact aRO (KS q aa) (λ ahk=>by (have:=nE q τ;(have:=iz q ahk;omega))) (λ ahk=>by (have:=M_ q τ;omega))),(λ q I Φ=>by (exact Hb q I Φ)),(λ q I Φ=>by (exact xq q I Φ)),(λ q I Φ=>by (exact aRO (KS q I) (λ ahm=>by (exact Hc q ahm Φ)) (λ ahm=>by omega))),(λ q I Φ=>by (exact aRO (KS q I) (λ ahn=>by (exact CE q ahn Φ)) (λ ahn=>by omega))),(λ q I Φ=>by (exact aRO (KS q I) (λ aho=>by (exact CF q aho Φ)) (λ aho=>by (have:=lf q Φ;omega))))⟩ (by omega) (.cons Z (.cons Z (.cons Z (.cons Z (.cons Z (.cons Z (.cons Z (.cons Z (.cons (bZ Z (by first | omega | rfl | (simp<;>omega))) .nil)))))))))
    ·refine bt<|rg<|J (ao Z (pw.all h_ eb))<| ?_;have b2:=b2.later (γ iC fV);have b2:=b2.mod hB aO;refine st Z Z b2 Z eb Z Z Z λ alZ FA b2=> ?_;have:=FA.size;have NH:=Ext.mod tY FA bu;refine nl<|b0<|aV<|rg<|J (bad Z Z (bE (by omega)))<|vm Z<|nl<| ?_;have ag:=ag.later fQ;have ag:=ag.mod oh aO;have ag:=ag.later (γ iC fV);have ag:=ag.mod hB aO;have ag:=ag.mod FA aO;have eX:=eX.later fQ;have eX:=eX.mod oh (bL lf);have eX:=eX.later (γ iC fV);have eX:=eX.mod hB (bL lf);have eX:=eX.mod FA (λ q I h=>by have Φ:=aRz.1 h;exfalso;(exact xq q I Φ));have eW:=eW.later fQ;have eW:=eW.mod oh (bL iz);have eW:=eW.later (γ iC fV);have eW:=eW.mod hB (bL iz);have eW:=eW.mod FA (λ q I h=>by have Φ:=aRz.1 h;exfalso;(exact CE q I Φ));have gz:=gz.later (γ iC fV);have gz:=gz.mod hB (bL Na);have gz:=gz.mod FA (λ q I h=>by have Φ:=aRz.1 h;exfalso;(exact Pn q I Φ));have iV:=iV.later fV;have iV:=iV.mod hB (bL M_);have iV:=iV.mod FA (λ q I h=>by have Φ:=aRz.1 h;exfalso;(have:=nE q I;omega));exact c6 _ _ ⟨k+1,VS,ZP,ow,b5,y6,oq,oF,y5,Z,Z,NH,ag,b2,eX,eW,(iV.down (by omega)),by omega,aBf W6 Xu Xg (by omega) (by omega) nB,by first | omega | (rw [aRH,aSf];omega),by first | omega | (rw [aRH,aSf];omega),λ q I=> .inr (by have:=nE q I;omega),λ q I Φ=>by exfalso;(have:=nE q I;omega),λ q I Φ=>by exfalso;(have:=nE q I;omega),λ q τ aa=>by exfalso;(have:=nE q τ;(have:=lf q aa;omega)),λ q τ aa=>by exfalso;(have:=nE q τ;(have:=iz q aa;omega)),(λ q I Φ=>by (exact Hb q I Φ)),(λ q I Φ=>by (exact xq q I Φ)),(λ q I Φ=>by (exact Hc q I Φ)),(λ q I Φ=>by (exact CE q I Φ)),(λ q I Φ=>by (exact CF q I Φ))⟩ (by omega) (.cons Z (.cons Z (.cons Z (.cons Z (.cons Z (.cons Z (.cons Z (.cons Z (.cons (bZ Z (by first | omega | rfl | (simp<;>omega))) .nil)))))))))
 ·have k8:k=l.length:=by omega
  refine dH<|dG<|ef<|dF<|aV<|aj<|J (ao Z (b2.all h_ eb))<|vm Z<|vm Z<|st Z Z ag Z eb Z Z Z λ aQz Mx ag=> ?_;have:=Mx.size;have aFH:=Ext.mod kB Mx bu;refine va Z<|va Z<|ai<|rt<|bb (.cell Z (ag.all h_ eb) (.tmp Z (.tmp Z .nil)))<| ?_;have gz:=gz.mod Mx (λ q I h=>by have Φ:=aRz.1 h;exfalso;(exact ac1 q I Φ));have eX:=eX.mod Mx (λ q I h=>by have Φ:=aRz.1 h;exfalso;(exact Hb q I Φ));have eW:=eW.mod Mx (λ q I h=>by have Φ:=aRz.1 h;exfalso;(exact Hc q I Φ));rw [k8,aSi] at nB;exact ⟨ar,l',b5,y6,ow,oF,y5,oq,Z,nB,gz,ac4,eX,eW,aFH⟩
end
section
open Go.Proofs.YtlikikpgmmkjbaaGreat.fc
def f_ (p:Int) (l:List aF):List aF:=l.filter λ x=> !(x.by_ != p)
theorem EO {h:kg} {q:Nat} (k:q∈κ.ae h.A):q∈dr.bX h:=by unfold dr.bX;simp [k]
theorem EP {h:kg} {q:Nat} (k:q∈κ.ae h.B):q∈dr.bX h:=by unfold dr.bX;simp [k]
theorem aub {h:kg} {q:Nat} (k:q∈kX h.T):q∈dr.bX h:=by unfold dr.bX;simp [k]
theorem auc {h:kg} {q:Nat} (k:q∈eJ h.U):q∈dr.bX h:=by unfold dr.bX;simp [k]
theorem aw1 (o:aF) (p:Int) (Cu:Nat) (w:World) (ry:aR w Cu [.int .i64 p] 3 (0,0)):
  Calls prog 78 #[.agg #[.int .i64 o.by_, .int .i64 o.kind, .int .i64 o.aQ, .int .i64 o.spot.x, .int .i64 o.spot.y, .int .i64 o.what], .pointer (some ⟨Cu,0,none⟩)] w (λ e w'=>e= .returned (.bool (o.by_ != p))∧Ext w w'):=by
 have RH:=ry.lt;refine ch (n:=8) func78 Z Z Z ?_;refine aj<|cB Z Z Z Z λ cv bJ a7 ee ab=> ?_;have:=a7.size;have bg:=γ (Ext.bF w) a7;have ei:=ab.lt;refine va Z<|ai<|aj<|J (av s3 Z)<|J (ao Z (ab.one bc Z))<| ?_;have ry:=ry.later a7;refine J (ao Z (ry.one bc Z))<|J (bne Z Z)<|va Z<|ai<|rt<|bb (.tmp Z .nil)<| ?_;exact ⟨Z,bg⟩
theorem agF (A:Option Addr) (c:Nat) (l:List aF) (p:Int) (w:World) (az:aF.rep.aJ 48 w A c l):
  Calls prog 45 #[.slice A l.length c, .int .i64 p] w (λ e w'=>∃ (bG:Option Addr) (b4:Nat),e= .returned (.slice bG (f_ p l).length b4)∧aF.rep.aD 51 48 w' w.heap.size (κ.ae bG) bG b4 (f_ p l)∧Ext w w'):=by
 refine ch (n:=9) func45 Z Z Z ?_;refine aj<|cB Z Z Z Z λ cv bJ a7 ee ab=> ?_;have:=a7.size;have bg:=γ (Ext.bF w) a7;have ei:=ab.lt;refine va Z<|ai<|aj<|vm Z<| ?_;have aoS:=ab;refine ca Hl Z Z ((G_ _ _ l _ (az.keep bg)).mono ?_);rintro e tK ⟨GC,eo,rfl,Oz,aKK,lJ⟩;refine ⟨_,Z, ?_⟩;have:=lJ.size;have jj:=γ bg lJ;have I3:=λ q I=>(Oz.lt q I).2;have azj:=λ q I=>(Oz.lt q I).1;refine J (Iu Z Z)<|ca ate Z Z ((ars cv 78 [.pointer (some ⟨bJ,0,none⟩)] (λ x=>x.by_ != p) _ _ _ _ (by first | exact Ext.bF _ | assumption) Oz atd (λ x hx w' h=>aw1 x p bJ w' (aoS.later h))).mono ?_);rintro e u' ⟨rfl,TF,q4⟩;refine ⟨_,Z, ?_⟩;have:=q4.size;have jW:=Ext.mod jj q4 (λ q I=>by have:=(Oz.lt q I).1;omega);have TF:aF.rep.aD 51 48 u' cv.heap.size (κ.ae GC) GC eo (f_ p l):=TF;refine va Z<|ai<|rt<|bb (.tmp Z .nil)<| ?_;exact ⟨GC,eo,Z,TF.down (by omega),jW⟩
end
section
open Go.Proofs.YtlikikpgmmkjbaaGreat.fc
theorem aqy {o:aF} (h:o.bo=0):o.ok:=by
 cases hr:o.Dn with
 | true=>rw [aF.Uz hr] at h;cases h
 | false =>
  unfold aF.Dn cO at hr;simp only [aSn,aS7,aRI,aR6] at hr;exact ⟨bI.2 (by omega),bI.2 (by omega),bI.2 (by omega),bI.2 (by omega),bI.2 (by omega),bI.2 (by omega)⟩
theorem aAT {m:List aF} (h:hC m=0):∀ o∈m,o.ok:=λ o bS=>by
 exact aqy ((FQ h).2 o bS)
def vE (W:ah) (x:cD) (t:List ByteArray):Prop:=x.W=W∧t=x.L.map iQ∧oN W x.L
theorem vE.step {W:ah} {x:cD} {t:List ByteArray} {q:List aF} {c:gY} (h:vE W x t):vE W (uZ (x,t,q) c).1 (uZ (x,t,q) c).2.1:=by
 unfold uZ;split
 ·rename_i hd
  rcases hd.2 with ⟨ar,_⟩ | ⟨ar,τ,aa⟩ | ⟨ar,_⟩
  ·rw [Pv ar,aRL (by omega)];exact h
  ·rw [Pw ar,UP ar,aRP ar];obtain ⟨a,b,d⟩:=h;refine ⟨a,by rw [b];show _=List.map iQ (x.L++_);rw [aR3];rfl,⟨?_,d.2.1, ?_⟩⟩
   ·show (x.L++_).length≤200;have τ:x.L.length<200:=τ;rw [aRH,aSf];omega
   ·show kr W (x.L++_)=0;rw [MS,aRL (by rw [d.2.2];simp),RP,← a];exact aa
  ·rw [UO ar,aRL (by omega)];exact h
 ·exact h
theorem aeP {W:ah}:∀ (l:List gY) (y:cD×List ByteArray×List aF),vE W y.1 y.2.1→vE W (l.foldl uZ y).1 (l.foldl uZ y).2.1
 | [],_,h=>h
 | c::r,y,h=>aeP r _ h.step
theorem aBm {W:ah} {e2:Int} {l:List gY} {x:cD} {t:List ByteArray} {q:List aF} (hn:Rq W e2) (h:qf (wA W e2) l=(x,t,q)):vE W x t:=by
 have:=aeP (W:=W) l (wA W e2, [], []) ⟨rfl,rfl,aSo _,hn.1,rfl⟩;unfold qf at h;rw [h] at this;exact this
section
variable {W V:ah} {x:cD} {t:List ByteArray} {e n:Int} {k:Nat}
theorem vE.jM (h:vE W x t) (i:Nat):∀ m∈x.L.take i,hC m=0∧∀ o∈m,o.ok:=λ m hm=>by
 obtain ⟨j,ay,rfl⟩:=aSw.1 (aTa hm);have:=h.2.2.aAP ay;rw [mn ay] at this;exact ⟨this,aAT this⟩
end
end
section
theorem Iy (p:Int) (a b:List aF):f_ p (a++b)=f_ p a++f_ p b:=by unfold f_;rw [aS2]
theorem ajA {p:Int} {o:aF} (h:o.by_=p):f_ p [o]= [o]:=by unfold f_;simp [h]
theorem ajz {p:Int} {o:aF} (h:¬ o.by_=p):f_ p [o]= []:=by unfold f_;simp [h]
def sS (qG S:List b6) (out:List aF):Prop:=S.length=qG.length∧∀ (j:Nat) (s qh:b6),S[j]? =some s→qG[j]? =some qh→s.gone=qh.gone∧f_ (j:Int) out++s.waits=qh.waits
def Oc (S:List b6):Prop:=∀ (j:Nat) (s:b6),S[j]? =some s→∀ o∈s.waits,o.by_=(j:Int)
theorem sV.apE {S:List b6} (h:sV S):Oc S:=λ j s hs o bS=>by
 have τ:=(h.2.2 j s hs).2;unfold b6.wH at τ;simp only [aRI,aSE,aUw,aSp,not_or,aUE,ne_eq,Decidable.not_not] at τ;exact (τ.2 o bS).1
theorem sS.step {qG S:List b6} {out:List aF} (h:sS qG S out) (Φ:Oc qG) (m i:Nat):sS qG (tF m (S,out) i).1 (tF m (S,out) i).2:=by
 cases hs:S[i]? with
 | none=>unfold tF;rw [show (S,out).1[i]? =none from hs];exact h
 | some s =>
  by_cases hc:0<s.waits.length∧out.length<m
  ·rw [ale hs hc];have aq:=(aRC.1 hs).1;have HU:qG[i]? =some (qG[i]'(by rw [← h.1];exact aq)):=aRD _;obtain ⟨τ,aa⟩:=h.2 i s _ hs HU;have he:s.waits=s.waits.getD 0 default::s.waits.drop 1:=by
    cases hw:s.waits with
    | nil=>rw [hw] at hc;exact absurd hc.1 (by simp)
    | cons a r=>rfl
   have mN:(s.waits.getD 0 default).by_=(i:Int):=Φ i _ HU _ (by rw [← aa];exact aUf _ (ih hc.1));refine ⟨by show (S.set _ _).length=_;rw [aRK];exact h.1,λ j s' qh ay Qy=> ?_⟩;have ay:(S.set i ⟨s.waits.drop 1,s.late,s.gone⟩)[j]? =some s':=ay;by_cases e:i=j
   ·subst e;rw [aRY aq] at ay;obtain rfl:=aRA ay;obtain rfl:=aRA (HU.symm.trans Qy);refine ⟨τ, ?_⟩;show f_ _ (out++ [_])++s.waits.drop 1=_;rw [Iy,ajA mN,aR9,← aa];exact aSI (f_ (i:Int) out++ ·) he.symm
   ·rw [aR4 e] at ay;obtain ⟨aw,a1⟩:=h.2 j s' qh ay Qy;refine ⟨aw, ?_⟩;show f_ _ (out++ [_])++s'.waits=_;rw [Iy,ajz (by rw [mN];omega),aR7];exact a1
  ·rw [ald hs hc];exact h
theorem sS.fold {qG:List b6} (Φ:Oc qG) (m:Nat):∀ (l:List Nat) (x:List b6×List aF),sS qG x.1 x.2→sS qG (l.foldl (tF m) x).1 (l.foldl (tF m) x).2
 | [],_,h=>h
 | i::r,x,h=>sS.fold Φ m r _ (h.step Φ m i)
theorem sS.rounds {qG:List b6} (Φ:Oc qG) (m:Nat):∀ (f:Nat) (x:List b6×List aF),sS qG x.1 x.2→sS qG (xn m f x).1 (xn m f x).2
 | 0,_,h=>h
 | f+1,x,h=>by
  have τ:=sS.fold Φ m (List.range x.1.length) x h;rw [xn];split
  ·exact τ
  ·exact sS.rounds Φ m f _ τ
theorem aiV (s:b6):(q0 s).waits=s.waits∧(q0 s).gone=s.gone:=by
 unfold q0;split
 ·exact ⟨Z,Z⟩
 ·split<;>exact ⟨rfl,rfl⟩
theorem aqG {S:List b6} (h:sV S) (m:Nat):sS S (pM m S).1 (pM m S).2:=sS.rounds h.apE m _ _ ⟨by simp,λ j s qh hs LI=>by
 have hs:(S.map q0)[j]? =some s:=hs;rw [aRU,LI] at hs;obtain rfl:=aRA hs;exact ⟨(aiV qh).2,by rw [(aiV qh).1];rfl⟩⟩
structure xa (F q:List aF) (i:Nat) (s:b6):Prop where
 n:s.gone=false→f_ (i:Int) F++s.waits=f_ (i:Int) q
 g:s.gone=true→s.waits= []∧(f_ (i:Int) q).take (f_ (i:Int) F).length=f_ (i:Int) F
 w:s.waits.length≤50
def yO (x:cD) (q:List aF):Prop:=∀ (i:Nat) (s:b6),x.S[i]? =some s→xa x.L.flatten q i s
theorem xa.out {F q:List aF} {i:Nat} {s:b6} (h:xa F q i s) {l:Int}:xa F q i ⟨[],l,true⟩:=⟨(λ h=>by cases h),(λ _=>⟨rfl,by
 cases aK:s.gone with
 | true=>exact (h.g aK).2
 | false=>rw [← h.n aK];simp⟩),aSo _⟩
theorem XR {S:List b6} {D:Nat}:∀ (k:Nat) (i:Nat) (s:b6),(q2 S D k)[i]? =some s→S[i]? =some s∨(s=⟨[],0,true⟩∧i<S.length)
 | 0,_,_,h=> .inl h
 | k+1,i,s,h=>by
  rw [q2] at h;split at h
  ·by_cases e:k=i
   ·subst e;have az:=(aRC.1 h).1;rw [Mn,Mm] at az;unfold zr at h;rw [aSy,aRY (by rw [Mm];exact az)] at h;exact .inr ⟨(aRA h).symm,az⟩
   ·rw [XU e] at h;exact XR k i s h
  ·exact XR k i s h
theorem yO.step {x:cD} {q:List aF} {c:gY} (h:yO x q) (hd:y9 x c):yO (xt x c) (if c.kind=1 then q++ [c.o] else q):=by
 rcases hd.2 with ⟨ar,τ,aa,qh,aw,a1,bK⟩ | ⟨ar,_⟩ | ⟨ar,_⟩
 ·rw [Pv ar,aRP ar];intro i s aq;have mN:=acP aa;have aq:(FY x.S c.o)[i]? =some s:=aq;rw [akF aw] at aq;have bw:=(aRC.1 aw).1;show xa x.L.flatten _ i s;by_cases e:c.o.by_.toNat=i
  ·have bj:c.o.by_=(i:Int):=by omega
   rw [e] at aq aw bw;rw [aRY bw] at aq;obtain rfl:=aRA aq;have b_:=h i qh aw;have ed:=(τ.2.2 i qh aw).1;refine ⟨λ _=> ?_,λ aK=> ?_, ?_⟩
   ·rw [Iy,ajA bj,← b_.n a1,aR9]
   ·rw [show qh.gone=true from aK] at a1;cases a1
   ·show (qh.waits++ [_]).length≤50;rw [aRH,aSf];omega
  ·rw [aR4 e] at aq;have b_:=h i s aq;have bj:f_ (i:Int) (q++ [c.o])=f_ (i:Int) q:=by rw [Iy,ajz (by omega),aR7]
   exact ⟨λ aK=>by rw [bj];exact b_.n aK,λ aK=>by rw [bj];exact b_.g aK,b_.w⟩
 ·rw [Pw ar,aRL (by omega)];intro i s aq;have hK:=aqG hd.1.2.1 x.e2.toNat;have aq:(pM x.e2.toNat x.S).1[i]? =some s:=aq;have bw:i<x.S.length:=by rw [← hK.1];exact (aRC.1 aq).1
  have HU:x.S[i]? =some x.S[i]:=aRD bw;obtain ⟨dO,dY⟩:=hK.2 i s _ aq HU;have b_:=h i _ HU;show xa (x.L++ [_]).flatten q i s;have a_:(x.L++ [(pM x.e2.toNat x.S).2]).flatten=x.L.flatten++(pM x.e2.toNat x.S).2:=by simp
  rw [a_];refine ⟨λ aK=> ?_,λ aK=> ?_, ?_⟩
  ·rw [Iy,aR9,dY];exact b_.n (dO ▸ aK)
  ·obtain ⟨cd,a2⟩:=b_.g (dO ▸ aK);rw [cd] at dY;obtain ⟨mI,fz⟩:=List.append_eq_nil_iff.1 dY;exact ⟨fz,by rw [Iy,mI,aR7];exact a2⟩
  ·have:=aSI List.length dY;rw [aRH] at this;have:=b_.w;omega
 ·rw [UO ar,aRL (by omega)];intro i s aq;rcases XR _ i s aq with τ | ⟨rfl,bw⟩
  ·exact h i s τ
  ·exact (h i _ (aRD bw)).out
theorem yO.fold:∀ (l:List gY) (y:cD×List ByteArray×List aF),yO y.1 y.2.2→yO (l.foldl uZ y).1 (l.foldl uZ y).2.2
 | [],_,h=>h
 | c::r,y,h=>by
  refine yO.fold r _ ?_;unfold uZ;split
  ·rename_i hd;exact h.step hd
  ·exact h
theorem aAI {W:ah} {e2:Int} {l:List gY} {x:cD} {t:List ByteArray} {q:List aF} (hn:Rq W e2) (h:qf (wA W e2) l=(x,t,q)):yO x q:=by
 have:=yO.fold l (wA W e2, [], []) (λ i s aq=>by
  have aq:(List.replicate W.aW.length (⟨[],0,false⟩:b6))[i]? =some s:=aq;rw [aSH] at aq;split at aq
  ·obtain rfl:=aRA aq;exact ⟨λ _=>Z,(λ h=>by cases h),aSo _⟩
  ·cases aq)
 unfold qf at h;rw [h] at this;exact this
section
variable {F q:List aF} {i:Nat} {s:b6}
theorem xa.atJ (h:xa F q i s) (aK:s.gone=false):f_ (i:Int) F++s.waits=f_ (i:Int) q:=h.n aK
theorem xa.atH (h:xa F q i s) (aK:s.gone=true):f_ (i:Int) F++s.waits=(f_ (i:Int) q).take (min ((f_ (i:Int) q).length:Int) ((f_ (i:Int) F++s.waits).length:Int)).toNat:=by
 obtain ⟨τ,aa⟩:=h.g aK;rw [τ,aR7];have aw:=aSI List.length aa;rw [aRE] at aw;rw [show (min ((f_ (i:Int) q).length:Int) ((f_ (i:Int) F).length:Int)).toNat=(f_ (i:Int) F).length by omega];exact aa.symm
theorem aAy (p:Int) (l:List aF):(f_ p l).length≤l.length:=aTN _ _
end
theorem atZ (L:List (List aF)) (h:∀ m∈L,m.length≤100):L.flatten.length≤L.length * 100:=by
 induction L with
 | nil=>simp
 | cons a r bD =>
  have τ:=h a aRZ;have aa:=bD λ m hm=>h m (aRQ _ hm);rw [aSu,aRH,aRG];omega
theorem at1 {L:List (List aF)} {k:Nat} {m:List aF} (h:L[k]? =some m):(L.take (k+1)).flatten=(L.take k).flatten++m:=by
 rw [BC h,aTx];simp
theorem vE.lens {W:ah} {x:cD} {t:List ByteArray} (h:vE W x t):(∀ m∈x.L,m.length≤100)∧x.L.length≤200:=⟨λ m hm=>by
 have:=h.jM x.L.length m (by rw [aSi];exact hm);exact (FQ this.1).1,h.2.2.1⟩
theorem vE.flat {W:ah} {x:cD} {t:List ByteArray} (h:vE W x t) (k:Nat):(x.L.take k).flatten.length≤20000:=by
 have τ:=atZ (x.L.take k) λ m hm=>h.lens.1 m (aTa hm);have aa:=h.lens.2;rw [aRE] at τ;omega
end
end Go.Proofs.YtlikikpgmmkjbaaGreat
