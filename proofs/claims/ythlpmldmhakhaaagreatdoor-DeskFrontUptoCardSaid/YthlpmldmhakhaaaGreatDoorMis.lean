import Derived.Test.YthlpmldmhakhaaaGreatDoorSpl
set_option linter.unusedVariables false
set_option linter.unusedSimpArgs false
set_option maxRecDepth 100000
set_option maxHeartbeats 4000000
open Go.RowKit
namespace Go.Proofs.YthlpmldmhakhaaaGreatDoor
open Tryz
abbrev aNX:=@List.flatMap_append
abbrev aOv:=@List.flatMap_cons
abbrev aOz:=@List.flatMap_nil
abbrev aQn:=@Nat.mul_le_mul
abbrev aQF:=@Option.map_eq_none_iff
abbrev aQS:=@List.length_finRange
theorem aeS {l:List bC} (h:nO l=0):l.length≤100∧∀ o∈l,o.a7=0:=by
 unfold nO at h;split at h
 ·cases h
 ·refine ⟨by omega,λ o bl=> ?_⟩;split at h
  ·rename_i x hx
   have:=aPs hx;rw [h] at this;exact nomatch this
  ·rename_i hx
   have:=aNQ.1 hx o bl;simpa using this
section
variable {k:Nat} {l:List bC}
def wT (W:ae) (k:Nat):List (Int×Int):=(W.ah.take k).map λ t=>(t.id,t.owner)
theorem awK {W:ae} (h:k<W.ah.length):wT W (k+1)=wT W k++ [((W.ah.getD k default).id,(W.ah.getD k default).owner)]:=by
 unfold wT;rw [Ao (d:=default) h,aM0];rfl
theorem awM {W:ae} (av:Good W) (h:k<W.ah.length):cN (wT W k) (W.ah.getD k default).id=none:=by
 unfold cN wT;rw [List.find?_map,aQF,aQF,aNQ];intro x hx;obtain ⟨i,ak,e⟩:=aNu.1 hx;rw [aME] at ak;rw [List.getElem_take] at e;have:=(aNn.1 av.GG) i k (by omega) h (by omega);rw [← e,oj h];have κ:=this.1;simp only [Function.comp_apply,aNq];omega
def may (W:ae) (o:bC):Bool:=if o.kind=5 then decide (o.by_<(W.bj.length:Int)) && (o.by_ == o.by_) else (cN (wT W W.ah.length) o.bf).isSome && ((cN (wT W W.ah.length) o.bf).getD 0 == o.by_)
def hi (W:ae) (l:List bC) (k:Nat):List eM:=(l.take k).flatMap λ o=>if may W o=true then mn o else []
theorem UU {W:ae} (h:k<l.length) (hm:may W (l.getD k default)=true):hi W l (k+1)=hi W l k++mn (l.getD k default):=by
 unfold hi;rw [Ao (d:=default) h,aNX,aOv,aOz,aM4,aMI hm]
theorem UT {W:ae} (h:k<l.length) (hm:may W (l.getD k default)=false):hi W l (k+1)=hi W l k:=by
 unfold hi;rw [Ao (d:=default) h,aNX,aOv,aOz,aM4,aMA (by rw [hm];decide),aM4]
theorem afY (W:ae) (l:List bC):∀ k,(hi W l k).length≤k
 | 0=>by simp [hi]
 | k+1=>by
  have bu:=afY W l k;by_cases h:k<l.length
  ·cases hm:may W (l.getD k default) with
   | true=>rw [UU h hm,aMB];have:(mn (l.getD k default)).length≤1:=(by unfold mn;(repeat' split)<;>simp);omega
   | false=>rw [UT h hm];omega
  ·have:hi W l (k+1)=hi W l k:=by unfold hi;rw [aMU (by omega),aMU (by omega)]
   rw [this];omega
def hj (W:ae) (l:List bC) (k:Nat):List dT:=(l.take k).flatMap λ o=>if may W o=true then mq o else []
theorem U0 {W:ae} (h:k<l.length) (hm:may W (l.getD k default)=true):hj W l (k+1)=hj W l k++mq (l.getD k default):=by
 unfold hj;rw [Ao (d:=default) h,aNX,aOv,aOz,aM4,aMI hm]
theorem UZ {W:ae} (h:k<l.length) (hm:may W (l.getD k default)=false):hj W l (k+1)=hj W l k:=by
 unfold hj;rw [Ao (d:=default) h,aNX,aOv,aOz,aM4,aMA (by rw [hm];decide),aM4]
theorem af0 (W:ae) (l:List bC):∀ k,(hj W l k).length≤k
 | 0=>by simp [hj]
 | k+1=>by
  have bu:=af0 W l k;by_cases h:k<l.length
  ·cases hm:may W (l.getD k default) with
   | true=>rw [U0 h hm,aMB];have:(mq (l.getD k default)).length≤1:=(by unfold mq;(repeat' split)<;>simp);omega
   | false=>rw [UZ h hm];omega
  ·have:hj W l (k+1)=hj W l k:=by unfold hj;rw [aMU (by omega),aMU (by omega)]
   rw [this];omega
def hQ (W:ae) (l:List bC) (k:Nat):List c9:=(l.take k).flatMap λ o=>if may W o=true then mo o else []
theorem UX {W:ae} (h:k<l.length) (hm:may W (l.getD k default)=true):hQ W l (k+1)=hQ W l k++mo (l.getD k default):=by
 unfold hQ;rw [Ao (d:=default) h,aNX,aOv,aOz,aM4,aMI hm]
theorem UW {W:ae} (h:k<l.length) (hm:may W (l.getD k default)=false):hQ W l (k+1)=hQ W l k:=by
 unfold hQ;rw [Ao (d:=default) h,aNX,aOv,aOz,aM4,aMA (by rw [hm];decide),aM4]
theorem afZ (W:ae) (l:List bC):∀ k,(hQ W l k).length≤k
 | 0=>by simp [hQ]
 | k+1=>by
  have bu:=afZ W l k;by_cases h:k<l.length
  ·cases hm:may W (l.getD k default) with
   | true=>rw [UX h hm,aMB];have:(mo (l.getD k default)).length≤1:=(by unfold mo;(repeat' split)<;>simp);omega
   | false=>rw [UW h hm];omega
  ·have:hQ W l (k+1)=hQ W l k:=by unfold hQ;rw [aMU (by omega),aMU (by omega)]
   rw [this];omega
theorem U2 (W:ae) (l:List bC) (k:Nat):(hi W l k).length≤k∧(hj W l k).length≤k∧(hQ W l k).length≤k:=⟨afY W l k,af0 W l k,afZ W l k⟩
theorem af2 (A:Option Addr) (c:Nat) (l:List bC) (pT:ae.cU) (W:ae) (w:World) (ay:bC.rep.aQ 48 w A c l) (b8:ae.Has w pT W):
  Calls prog 86 #[.slice A l.length c, .agg ((ae.cells pT W).toArray)] w (λ e w'=>∃ fp bS cc bd cz bP,((nO l≠0∧e= .returned (.tuple #[.slice none 0 0, .slice none 0 0, .slice none 0 0,γ (nO l)]))∨(nO l=0∧W.a7≠0∧e= .returned (.tuple #[.slice none 0 0, .slice none 0 0, .slice none 0 0,γ W.a7]))∨(nO l=0∧W.a7=0∧e= .returned (.tuple #[.slice fp (hi W l l.length).length bS, .slice cc (hj W l l.length).length bd, .slice cz (hQ W l l.length).length bP,γ 0])∧eM.rep.aL 210 16 w' w.heap.size (Φ.ab fp) fp bS (hi W l l.length)∧dT.rep.aL 212 24 w' w.heap.size (Φ.ab cc) cc bd (hj W l l.length)∧c9.rep.aL 191 40 w' w.heap.size (Φ.ab cz) cz bP (hQ W l l.length)))∧Ext w w'):=by
 have F':=ay.km;refine cx (n:=82) func86 Z Z Z ?_;refine eW Z Z λ dn bw bm fO ag=> ?_;have ja:=ag.lt;refine va Z<|va Z<|va Z<|aU Z<|aI<|aN Z<|de anX Z (awn _ _ l _ (ay.keep bm)) λ fP d_=> ?_;have:=d_.size;have b7:=J bm d_;refine aU Z<|aN Z<|gJ Z Z<|aJ<| ?_;refine ob Z (λ hC=> ?_) (λ hC=> ?_)
 ·refine aN Z<|va Z<|va Z<|va Z<|bL Z<|cW<|dR (.tmp Z (.tmp Z (.tmp Z (.tmp Z .nil))))<| ?_;exact ⟨none,0,none,0,none,0, .inl ⟨hC,Z⟩,b7⟩
 ·obtain ⟨aFZ,_⟩:=aeS (by simpa using hC);refine bF<|aI<|aG<| ?_;have ag:=ag.later d_;refine aa (aA Z (ag.all fb cP))<|de Fy Z (E' pT W _ (b8.keep b7)) λ xa eA=> ?_;have:=eA.size;have iQ:=J b7 eA;refine aU Z<|aN Z<|gJ Z Z<|aJ<| ?_;refine ob Z (λ j3=> ?_) (λ j3=> ?_)
  ·refine aN Z<|va Z<|va Z<|va Z<|bL Z<|cW<|dR (.tmp Z (.tmp Z (.tmp Z (.tmp Z .nil))))<| ?_;exact ⟨none,0,none,0,none,0, .inr (.inl ⟨by simpa using hC,j3,rfl⟩),iQ⟩
  ·have av:=Good.tX (by simpa using j3);have BD:=av.dH;refine bF<|aG<|Ug Z λ sM qy gi adz ajq=> ?_;have iR:=J iQ gi;refine aU Z<|aI<|aG<|aa (ar kf Z)<| ?_;have ag:=ag.later (J eA gi);refine bA Z ag l9 Z<|aa (dC underlying50 Z)<|vm Z<|aJ<|bV<| ?_;refine gh (λ cL cw aV=>∃ k:Nat,cw= [(0, .slice A l.length c),(3, .pointer (a_ bw)),(4, .slice none 0 0),(5, .slice none 0 0),(6, .slice none 0 0),(7,γ 0),(10, .map (some qy)),(30, .slice pT.T W.ah.length pT.t),(31,γ (W.ah.length:Int)),(32,γ (k:Int))]∧cL=W.ah.length - k∧Ext w aV∧aO aV bw (ae.cells pT W) 52 (0,0)∧n9 aV qy (wT W k)∧(k≤W.ah.length)) _ _ ⟨0,Z,Z,iR,ag,ajq,by omega⟩ (eV Z Z Z) ?_;rintro wB aC5 KL ⟨k,rfl,rfl,pI,ag,hI,aj⟩;have aJW:=ag.lt;have Uv:=hI.lt;refine aG<|fI Z Z<|aJ<|aI<| ?_;refine fM Z (λ SE=> ?_) (λ SE=> ?_)
   ·refine bF<|aI<|bV<|aG<|aa (bX k underlying50 kg Z Z ((b8.T.keep pI).bx (a1 k)) Z (by omega))<|aa (aA Z (Φ.aQ.jG jo ((b8.T.keep pI).ck (a1 k)) (cl (l:=W.ah) (u:=default) (by omega)) zI kg))<|dj Fz Z λ KM XX eK adD xC=> ?_;have sU:=J pI eK;refine c6 Z Z xC Z kg Z Z λ xc ru xC=> ?_;have jT:=Ext.mod sU ru bE;refine aJ<|rg<|vm Z<|aa (ar FA Z)<|bA Z xC aZ Z<|aa (ar Bj Z)<|bA Z xC aZ Z<| ?_;have hI:=(hI.later eK).mod ru aY;refine mu underlying180 underlying3 hI (awM av (by omega)) Z Z Z λ Vy wH hI=> ?_;have xq:=Ext.mod jT wH bE;refine nl<|cm<|eR Z Z Z<| ?_;have aR:wT W (k+1)=wT W k++ [((W.ah.getD k default).id,(W.ah.getD k default).owner)]:=awK (by omega);have ag:=((ag.later eK).mod ru aY).mod wH aY;exact fh ⟨k+1,Z,Z,xq,ag,(by rw [aR];exact hI),by omega⟩
   ·refine er<|ep<|eY<|eo<|br<|aG<|dj anZ Z λ xd qZ rP atM Cv=> ?_;have nk:=J pI rP;refine aJ<|aI<|aN Z<|aa (dC underlying53 Z)<|vm Z<|aJ<|bV<| ?_;have mL:k=W.ah.length:=by omega
    subst mL;have ag:=ag.later rP;have hI:=hI.later rP;refine gh (λ cL cw aV=>∃ j:Nat,∃ fp:Option Addr,∃ bS:Nat,∃ cc:Option Addr,∃ bd:Nat,∃ cz:Option Addr,∃ bP:Nat,cw= [(3, .pointer (a_ bw)),(4, .slice none 0 0),(5, .slice none 0 0),(6, .slice none 0 0),(7,γ 0),(10, .map (some qy)),(13, .pointer (a_ qZ)),(42, .slice A l.length c),(43,γ (l.length:Int)),(44,γ (j:Int))]∧cL=l.length - j∧Ext w aV∧aO aV bw (ae.cells pT W) 52 (0,0)∧n9 aV qy (wT W W.ah.length)∧aO aV qZ [.slice fp ((hi W l j).length) bS, .slice cc ((hj W l j).length) bd, .slice cz ((hQ W l j).length) bP] 182 (0,0)∧eM.rep.aL 210 16 aV w.heap.size (Φ.ab fp) fp bS (hi W l j)∧dT.rep.aL 212 24 aV w.heap.size (Φ.ab cc) cc bd (hj W l j)∧c9.rep.aL 191 40 aV w.heap.size (Φ.ab cz) cz bP (hQ W l j)∧(j≤l.length)∧(∀ q∈Φ.ab fp,q=bw→False)∧(∀ q∈Φ.ab fp,q=qy→False)∧(∀ q∈Φ.ab fp,q=qZ→False)∧(∀ q∈Φ.ab cc,q=bw→False)∧(∀ q∈Φ.ab cc,q=qy→False)∧(∀ q∈Φ.ab cc,q=qZ→False)∧(∀ q∈Φ.ab cc,q∈Φ.ab fp→False)∧(∀ q∈Φ.ab cz,q=bw→False)∧(∀ q∈Φ.ab cz,q=qy→False)∧(∀ q∈Φ.ab cz,q=qZ→False)∧(∀ q∈Φ.ab cz,q∈Φ.ab fp→False)∧(∀ q∈Φ.ab cz,q∈Φ.ab cc→False)) _ _ ⟨0,none,0,none,0,none,0,Z,Z,nk,ag,hI,Cv,(Φ.aL.nil _),(Φ.aL.nil _),(Φ.aL.nil _),by omega,(λ q I af=>by (simp [Φ.ab] at I)),(λ q I af=>by (simp [Φ.ab] at I)),(λ q I af=>by (simp [Φ.ab] at I)),(λ q I af=>by (simp [Φ.ab] at I)),(λ q I af=>by (simp [Φ.ab] at I)),(λ q I af=>by (simp [Φ.ab] at I)),(λ q I af=>by (simp [Φ.ab] at I)),(λ q I af=>by (simp [Φ.ab] at I)),(λ q I af=>by (simp [Φ.ab] at I)),(λ q I af=>by (simp [Φ.ab] at I)),(λ q I af=>by (simp [Φ.ab] at I)),(λ q I af=>by (simp [Φ.ab] at I))⟩ (eV Z Z Z) ?_;rintro oG aDi VD ⟨j,fp,bS,cc,bd,cz,bP,rfl,rfl,uM,ag,hI,bp,nx,ny,nz,aw,Fl,Fm,zD,vD,od,pX,sf,mI,mJ,Bc,sg,Fo⟩;have afi:=ag.lt;have afj:=hI.lt;have axF:=bp.lt;have Pb:=bY nx.lt;have wY:=bY ny.lt;have Pc:=bY nz.lt;have yo:=U2 W l j;refine aG<|fI Z Z<|aJ<|aI<| ?_;refine fM Z (λ zU=> ?_) (λ zU=> ?_)
    ·have abH:=bC.QS ay _ (mU (d:=default) (show j<l.length by omega));refine bF<|aI<|bV<|aG<|aa (bX j underlying53 fR Z Z ((ay.keep uM).bx (a1 j)) Z (by omega))<|aa (aA Z (Φ.aQ.jG aa5 ((ay.keep uM).ck (a1 j)) (cl (l:=l) (u:=default) (by omega)) j1 fR))<|dj MQ Z λ agT aEo lW aH7 rW=> ?_;have Lb:=J uM lW;have aKm:=rW.lt;refine c6 Z Z rW Z fR Z Z λ aAy gP rW=> ?_;have:=gP.size;have Hi:=Ext.mod Lb gP bE;refine aJ<|aN Z<|aa (ar C3 Z)<|bA Z rW aZ Z<| ?_;have hI:=(hI.later lW).mod gP aY;refine aa (lk underlying180 underlying3 RF hI Z Z)<|vm Z<|b2 Z Z<|b2 Z Z<|va Z<|aU Z<|aI<|aG<|aa (ar og Z)<|bA Z rW aZ Z<|aa (beq Z Z)<|aJ<| ?_;refine lF Z (λ yh=> ?_) (λ yh=> ?_)
     ·refine du [(1,0),(3,0),(5,0)] [0,1,2,3,4,5,6,7,8,9] ?_;refine ax Z (λ _=>ar Fv Z)<|cO Z Z rW aZ Z<|ax Z (λ _=>ar Fv Z)<|cO Z Z rW aZ Z<|ax Z (λ _=>ar sq Z)<| ?_;have ag:=(ag.later lW).mod gP aY;refine cO Z Z ag x' Z<|ax Z (λ _=>dC underlying49 Z)<|ax Z (λ _=>blt Z Z)<|ax Z (λ _=>eQ Z)<|ax Z (λ _=>eQ Z)<|fn λ Er eF=> ?_;have:=eF.size;have kv:=J Hi eF;refine br<|aN Z<|vm Z<|gw Z Z<|cb Z (λ hc=>ar Fv Z)<| ?_;have rW:=rW.later eF;refine cb Z (λ hc=>aA (gt hc Z) (rW.one aZ Z))<|cb Z (λ hc=>beq (gt hc Z) (gt hc Z))<|aa (fG Z Z Z Z)<|aJ<| ?_;refine c_ Z (λ SV=> ?_) (λ SV=> ?_)
      ·have qd:may W (l.getD j default)=true:=by unfold may;rw [aMI yh];rw [← SV]
       refine rg<|aa (aA Z (rW.all j1 fR))<| ?_;have bp:=((bp.later lW).mod gP aY).later eF;have nx:=((nx.later lW).mod gP (bk Pb)).later eF;have ny:=((ny.later lW).mod gP (bk wY)).later eF;have nz:=((nz.later lW).mod gP (bk Pc)).later eF;have ap3:∀ q∈(qZ::(Φ.ab fp++(Φ.ab cc++Φ.ab cz))),w.heap.size≤q:=by
        intro q I;simp only [aMN,aMQ] at I;rcases I with I | I | I | I
        ·omega
        ·exact (nx.lt q I).1
        ·exact (ny.lt q I).1
        ·exact (nz.lt q I).1
       refine ca Zx Z Z ((XB (l.getD j default) w qZ _ _ _ _ _ _ _ _ _ _ kv abH bp nx ny nz zD pX Bc sf sg Fo (by omega) (by omega) (by omega)).mono ?_);rintro e VH ⟨aih,al6,aii,al7,aij,al8,rfl,Lj,aka,akb,akc,ans,ant,anu,ani,anj,ank,aap,aaq,aar,tS⟩;refine cK ?_;have EH:=Ext.mod kv tS ap3;refine nl<|cm<|eR Z Z Z<| ?_;have a6:hi W l (j+1)=hi W l j++mn (l.getD j default):=UU (by omega) qd;have cM:hj W l (j+1)=hj W l j++mq (l.getD j default):=U0 (by omega) qd;have iV:hQ W l (j+1)=hQ W l j++mo (l.getD j default):=UX (by omega) qd;have ag:=ag.later eF;have awa:bw∉(qZ::(Φ.ab fp++(Φ.ab cc++Φ.ab cz))):=by
        intro I;simp only [aMN,aMQ] at I;rcases I with I | I | I | I
        ·omega
        ·exact (λ q (κ:q∈Φ.ab fp) (τ:q=bw)=>show False by (exact Fl q κ τ)) _ I Z
        ·exact (λ q (κ:q∈Φ.ab cc) (τ:q=bw)=>show False by (exact vD q κ τ)) _ I Z
        ·exact (λ q (κ:q∈Φ.ab cz) (τ:q=bw)=>show False by (exact mI q κ τ)) _ I Z
       have ag:=ag.mod tS awa;have hI:=hI.later eF;have awb:qy∉(qZ::(Φ.ab fp++(Φ.ab cc++Φ.ab cz))):=by
        intro I;simp only [aMN,aMQ] at I;rcases I with I | I | I | I
        ·omega
        ·exact (λ q (κ:q∈Φ.ab fp) (τ:q=qy)=>show False by (exact Fm q κ τ)) _ I Z
        ·exact (λ q (κ:q∈Φ.ab cc) (τ:q=qy)=>show False by (exact od q κ τ)) _ I Z
        ·exact (λ q (κ:q∈Φ.ab cz) (τ:q=qy)=>show False by (exact mJ q κ τ)) _ I Z
       have hI:=hI.mod tS awb;exact fh ⟨j+1,aih,al6,aii,al7,aij,al8,Z,Z,EH,ag,hI,(by rw [a6,cM,iV];exact Lj),(by rw [a6];exact aka),(by rw [cM];exact akb),(by rw [iV];exact akc),by omega,(gp aap Fl),(gp aap Fm),ans,(gp aaq vD),(gp aaq od),ant,ani,(gp aar mI),(gp aar mJ),anu,anj,ank⟩
      ·have qd:may W (l.getD j default)=false:=by unfold may;rw [aMI yh];rw [← SV]
       refine gb<|cm<|eR Z Z Z<| ?_;have a6:hi W l (j+1)=hi W l j:=UT (by omega) qd;have cM:hj W l (j+1)=hj W l j:=UZ (by omega) qd;have iV:hQ W l (j+1)=hQ W l j:=UW (by omega) qd;have ag:=ag.later eF;have hI:=hI.later eF;have bp:=((bp.later lW).mod gP aY).later eF;have nx:=((nx.later lW).mod gP (bk Pb)).later eF;have ny:=((ny.later lW).mod gP (bk wY)).later eF;have nz:=((nz.later lW).mod gP (bk Pc)).later eF;exact fh ⟨j+1,fp,bS,cc,bd,cz,bP,Z,Z,kv,ag,hI,(by rw [a6,cM,iV];exact bp),(by rw [a6];exact nx),(by rw [cM];exact ny),(by rw [iV];exact nz),by omega,Fl,Fm,zD,vD,od,pX,sf,mI,mJ,Bc,sg,Fo⟩
     ·refine bF<|aN Z<|vm Z<|gw Z Z<|cb Z (λ hc=>ar Fv Z)<|cb Z (λ hc=>aA (gt hc Z) (rW.one aZ Z))<|cb Z (λ hc=>beq (gt hc Z) (gt hc Z))<|aa (fG Z Z Z Z)<|aJ<| ?_;refine c_ Z (λ SA=> ?_) (λ SA=> ?_)
      ·have qd:may W (l.getD j default)=true:=by unfold may;rw [aMA yh];rw [← SA]
       refine rg<|aa (aA Z (rW.all j1 fR))<| ?_;have bp:=(bp.later lW).mod gP aY;have nx:=(nx.later lW).mod gP (bk Pb);have ny:=(ny.later lW).mod gP (bk wY);have nz:=(nz.later lW).mod gP (bk Pc);have ap2:∀ q∈(qZ::(Φ.ab fp++(Φ.ab cc++Φ.ab cz))),w.heap.size≤q:=by
        intro q I;simp only [aMN,aMQ] at I;rcases I with I | I | I | I
        ·omega
        ·exact (nx.lt q I).1
        ·exact (ny.lt q I).1
        ·exact (nz.lt q I).1
       refine ca Zx Z Z ((XB (l.getD j default) w qZ _ _ _ _ _ _ _ _ _ _ Hi abH bp nx ny nz zD pX Bc sf sg Fo (by omega) (by omega) (by omega)).mono ?_);rintro e aAd ⟨ahO,alB,ahP,alC,ahQ,alD,rfl,aio,ajJ,ajK,ajL,anp,anq,anr,anf,ang,anh,aaf,aag,aah,T7⟩;refine cK ?_;have VY:=Ext.mod Hi T7 ap2;refine nl<|cm<|eR Z Z Z<| ?_;have a6:hi W l (j+1)=hi W l j++mn (l.getD j default):=UU (by omega) qd;have cM:hj W l (j+1)=hj W l j++mq (l.getD j default):=U0 (by omega) qd;have iV:hQ W l (j+1)=hQ W l j++mo (l.getD j default):=UX (by omega) qd;have ag:=(ag.later lW).mod gP aY;have av8:bw∉(qZ::(Φ.ab fp++(Φ.ab cc++Φ.ab cz))):=by
        intro I;simp only [aMN,aMQ] at I;rcases I with I | I | I | I
        ·omega
        ·exact (λ q (κ:q∈Φ.ab fp) (τ:q=bw)=>show False by (exact Fl q κ τ)) _ I Z
        ·exact (λ q (κ:q∈Φ.ab cc) (τ:q=bw)=>show False by (exact vD q κ τ)) _ I Z
        ·exact (λ q (κ:q∈Φ.ab cz) (τ:q=bw)=>show False by (exact mI q κ τ)) _ I Z
       have ag:=ag.mod T7 av8;have av9:qy∉(qZ::(Φ.ab fp++(Φ.ab cc++Φ.ab cz))):=by
        intro I;simp only [aMN,aMQ] at I;rcases I with I | I | I | I
        ·omega
        ·exact (λ q (κ:q∈Φ.ab fp) (τ:q=qy)=>show False by (exact Fm q κ τ)) _ I Z
        ·exact (λ q (κ:q∈Φ.ab cc) (τ:q=qy)=>show False by (exact od q κ τ)) _ I Z
        ·exact (λ q (κ:q∈Φ.ab cz) (τ:q=qy)=>show False by (exact mJ q κ τ)) _ I Z
       have hI:=hI.mod T7 av9;exact fh ⟨j+1,ahO,alB,ahP,alC,ahQ,alD,Z,Z,VY,ag,hI,(by rw [a6,cM,iV];exact aio),(by rw [a6];exact ajJ),(by rw [cM];exact ajK),(by rw [iV];exact ajL),by omega,(gp aaf Fl),(gp aaf Fm),anp,(gp aag vD),(gp aag od),anq,anf,(gp aah mI),(gp aah mJ),anr,ang,anh⟩
      ·have qd:may W (l.getD j default)=false:=by unfold may;rw [aMA yh];rw [← SA]
       refine gb<|cm<|eR Z Z Z<| ?_;have a6:hi W l (j+1)=hi W l j:=UT (by omega) qd;have cM:hj W l (j+1)=hj W l j:=UZ (by omega) qd;have iV:hQ W l (j+1)=hQ W l j:=UW (by omega) qd;have ag:=(ag.later lW).mod gP aY;have bp:=(bp.later lW).mod gP aY;have nx:=(nx.later lW).mod gP (bk Pb);have ny:=(ny.later lW).mod gP (bk wY);have nz:=(nz.later lW).mod gP (bk Pc);exact fh ⟨j+1,fp,bS,cc,bd,cz,bP,Z,Z,Hi,ag,hI,(by rw [a6,cM,iV];exact bp),(by rw [a6];exact nx),(by rw [cM];exact ny),(by rw [iV];exact nz),by omega,Fl,Fm,zD,vD,od,pX,sf,mI,mJ,Bc,sg,Fo⟩
    ·refine er<|ep<|eY<|eo<|br<|aI<| ?_;refine du [(1,0),(3,0),(5,0)] [0,1,2,3,4,5,6,7,8,9] ?_;refine ax Z (λ _=>ar Rq Z)<|cO Z Z bp Zv Z<|ax Z (λ _=>ar Rr Z)<|cO Z Z bp Zw Z<|ax Z (λ _=>ar C5 Z)<|cO Z Z bp MR Z<|ax Z (λ _=>eQ Z)<|ax Z (λ _=>eQ Z)<|ax Z (λ _=>eQ Z)<|ax Z (λ _=>eQ Z)<|fn λ aK9 PA=> ?_;have aBw:=J uM PA;refine br<|rt<|dR (.tmp Z (.tmp Z (.tmp Z (.tmp Z .nil))))<| ?_;have nx:=nx.later PA;have ny:=ny.later PA;have nz:=nz.later PA;have RM:j=l.length:=by omega
     subst RM;exact ⟨fp,bS,cc,bd,cz,bP, .inr (.inr ⟨by simpa using hC,by simpa using j3,rfl,nx,ny,nz⟩),aBw⟩
end
section
variable {l:List bC}
def lQ (W:ae) (l:List bC):Int:=if nO l≠0 then nO l else W.a7
theorem UY {W:ae} (h:lQ W l=0):nO l=0∧W.a7=0:=by
 unfold lQ at h;split at h
 ·rename_i κ;exact absurd h κ
 ·rename_i κ;exact ⟨by simpa using κ,h⟩
theorem ayZ {W:ae} (h:lQ W l=0):l.length≤100:=(aeS (UY h).1).1
theorem ay0 (A:Option Addr) (c:Nat) (l:List bC) (pT:ae.cU) (W:ae) (w:World) (ay:bC.rep.aQ 48 w A c l) (b8:ae.Has w pT W) (h:lQ W l≠0):Calls prog 86 #[.slice A l.length c, .agg (ae.cells pT W).toArray] w (λ e w'=>e= .returned (.tuple #[.slice none 0 0, .slice none 0 0, .slice none 0 0, .int .i64 (lQ W l)])∧Ext w w'):=by
 refine (af2 A c l pT W w ay b8).mono λ e w' he=> ?_;obtain ⟨fp,bS,cc,bd,cz,bP,(⟨κ,τ⟩ | ⟨κ,τ,aq⟩ | ⟨κ,τ,_⟩),hx⟩:=he
 ·exact ⟨by rw [τ];unfold lQ;rw [aMI κ],hx⟩
 ·exact ⟨by rw [aq];unfold lQ;rw [aMA (by simpa using κ)],hx⟩
 ·exact absurd (by unfold lQ;rw [aMA (by simpa using κ)];exact τ) h
theorem af3 (A:Option Addr) (c:Nat) (l:List bC) (pT:ae.cU) (W:ae) (w:World) (ay:bC.rep.aQ 48 w A c l) (b8:ae.Has w pT W) (h:lQ W l=0):Calls prog 86 #[.slice A l.length c, .agg (ae.cells pT W).toArray] w (λ e w'=>∃ fp bS cc bd cz bP,e= .returned (.tuple #[.slice fp (hi W l l.length).length bS, .slice cc (hj W l l.length).length bd, .slice cz (hQ W l l.length).length bP, .int .i64 0])∧eM.rep.aL 210 16 w' w.heap.size (Φ.ab fp) fp bS (hi W l l.length)∧dT.rep.aL 212 24 w' w.heap.size (Φ.ab cc) cc bd (hj W l l.length)∧c9.rep.aL 191 40 w' w.heap.size (Φ.ab cz) cz bP (hQ W l l.length)∧Ext w w'):=by
 obtain ⟨cV,a2⟩:=UY h;refine (af2 A c l pT W w ay b8).mono λ e w' he=> ?_;obtain ⟨fp,bS,cc,bd,cz,bP,(⟨κ,τ⟩ | ⟨κ,τ,aq⟩ | ⟨κ,τ,aq,bb,bT,cy⟩),hx⟩:=he
 ·exact absurd cV κ
 ·exact absurd a2 τ
 ·exact ⟨fp,bS,cc,bd,cz,bP,aq,bb,bT,cy,hx⟩
end
section
variable {o:Oper} {id:Nat} {op:Op}
section
variable {F:List Nat} {P:Program} {ops:Array Oper} {Q:Exit→Act→World→Prop} {aK:Nat→Nat}
def s9 (F:List Nat) (P:Program) (ops:Array Oper) (w0:World) (o:Oper) (v:Value) (a:Act):Prop :=
  (Region.wanted o (yielded ops a.tmps)=true∧∀ w,Mod F w0 w→tY P w v ((execOp a.eval o).run P w))∨
  (Region.wanted o (yielded ops a.tmps)=false∧v=undef)
theorem s9.of_same {w0:World} {v:Value} {a a':Act} (h:s9 F P ops w0 o v a) (he:execOp a'.eval o=execOp a.eval o) (hw:Region.wanted o (yielded ops a'.tmps)=Region.wanted o (yielded ops a.tmps)):s9 F P ops w0 o v a':=by
  unfold s9 at *;rw [he,hw];exact h
theorem s9.on {w0 aM:World} {v:Value} {a:Act} (h:s9 F P ops w0 o v a) (hx:Mod F w0 aM):s9 F P ops aM o v a :=
  h.imp (λ ⟨κ,τ⟩=>⟨κ,λ w hw=>τ w (hx.trans hw)⟩) id
theorem Yields.axK {w0:World} {v:Value} {a:Act} (h:Yields P ops o v a):s9 F P ops w0 o v a :=
  h.imp (λ ⟨κ,τ⟩=>⟨κ,λ w _=>by rw [τ w];exact ⟨rfl,rfl⟩⟩) id
def azb (F:List Nat) (P:Program) (ops:Array Oper) (Q:Exit→Act→World→Prop) (aK:Nat→Nat) (i:Nat) (K:Act→World→Prop) (a:Act) (w0:World):Prop :=
  ∃ o,ops[i]? =some o∧
    ((aK i≤1∧∃ v,s9 F P ops w0 o v a∧K (a.put o.dst v) w0)∨
     (1<aK i∧∀ w,Ext w0 w→wpOp P ops Q i (λ a' w'=>(aK i=2→Mod F w0 w')∧K a' w') a w))
def H9 (F:List Nat) (P:Program) (ops:Array Oper) (Q:Exit→Act→World→Prop) (aK:Nat→Nat):Nat→Array Bool→Act→World→Prop
  | 0,l,a,w0=>Region.ready .any ops l= []∧∀ w,Ext w0 w→Q .normal a w
  | f+1,l,a,w0=>(Region.ready .any ops l= []→∀ w,Ext w0 w→Q .normal a w)∧∀ i∈Region.ready .any ops l,azb F P ops Q aK i (H9 F P ops Q aK f (l.setIfInBounds i true)) a w0
theorem E3:∀ (f:Nat) (l:Array Bool) (a:Act) (w0:World),H9 F P ops Q aK f l a w0→∀ w,Ext w0 w→wpAny P .any ops Q f l a w
  | 0,_,_,_,h,w,hw=>⟨h.1,h.2 w hw⟩
  | f+1,l,a,w0,h,w,hw=>⟨λ aB=>h.1 aB w hw,λ i ak=>by
      obtain ⟨o,bl,τ⟩:=h.2 i ak;rcases τ with ⟨_,v,I,aj⟩ | ⟨_,τ⟩
      · unfold wpOp
        simp only [bl];rcases I with ⟨i_,I⟩ | ⟨i_,rfl⟩
        · rw [aMI i_]
          refine .inl ?_;have I:=I w (Mod.aP hw);unfold Oper.wp;generalize (execOp a.eval o).run P w=r at *
          cases r with
          | ok n w' =>
            cases n<;>simp only [tY] at I<;>simp only [Oper.upon]
            case value u=>obtain ⟨rfl,rfl⟩:=I;exact E3 f _ _ _ aj _ hw
            case skip=>obtain ⟨rfl,rfl⟩:=I;exact E3 f _ _ _ aj _ hw
            case enter f' args=>obtain ⟨rfl,hc⟩:=I;exact hc.mono λ e kp ⟨he,hx⟩=>by subst he;exact E3 f _ _ _ aj _ (hw.nT hx)
          | halt x w'=>simp only [tY] at I
        · rw [aMA (by rw [i_];decide)]
          exact E3 f _ _ _ aj _ hw
      · exact aOf (λ a' w' aq=>E3 f _ _ _ aq.2 _ (Ext.bM w')) (τ w hw)⟩
theorem Z2 {i:Nat} {c2:Oper} {v:Value} (ak:ops[i]? =some c2) (aj:aK i≤1) (j6:∀ (j:Nat) (o:Oper) cs b,ops[j]? =some o→o.op≠ .select cs b)
    (eI:∀ c a w,¬ Q (.panic c) a w) (az:World→Act→Prop) (kt:∀ w0 a,az w0 a→s9 F P ops w0 c2 v a)
    (z2:∀ w0 a a',az w0 a→execOp a'.eval c2=execOp a.eval c2→Region.wanted c2 (yielded ops a'.tmps)=Region.wanted c2 (yielded ops a.tmps)→az w0 a')
    (z3:∀ w0 aM a,Mod F w0 aM→az w0 a→az aM a) (R:Nat→Bool) (qg:Array Bool)
    (hR:∀ j cI,ops[j]? =some cI→j≠i→(∀ e∈cI.after,Region.binds .any e=true→R e.on=true)→R j=true)
    (aS:(∀ w0 aM a,az w0 a→az aM a)∨∀ j,R j=true→3≤aK j→qg.getD j true=true):
    ∀ (f:Nat) (l:Array Bool) (a:Act) (w0:World),(∀ j,l.getD j false=true→R j=true)→(∀ j,qg.getD j true=true→l.getD j true=true)→
      (∀ j cI,ops[j]? =some cI→j≠i→l.getD j true=false→(∀ e∈cI.after,Region.binds .any e=true→e.on≠i)→c2.apart ops cI=true)→
      i∈Region.ready .any ops l→az w0 a→H9 F P ops Q aK f (l.setIfInBounds i true) (a.put c2.dst v) w0→H9 F P ops Q aK (f+1) l a w0:=by
  intro f;induction f with
  | zero =>
    intro l a w0 _ _ _ hr bo H;refine ⟨λ h=>(by rw [h] at hr;cases hr),λ j aw=> ?_⟩;by_cases fe:j=i
    · subst fe;exact ⟨c2,ak, .inl ⟨aj,v,kt _ _ bo,H⟩⟩
    · have:=aOh aw fe
      rw [H.1] at this;cases this
  | succ f bu =>
    intro l a w0 vU vS vQ hr bo H;refine ⟨λ h=>(by rw [h] at hr;cases hr),λ j aw=> ?_⟩;by_cases fe:j=i
    · subst fe;exact ⟨c2,ak, .inl ⟨aj,v,kt _ _ bo,H⟩⟩
    · obtain ⟨cI,hD,κ⟩:=H.2 j (aOh aw fe)
      obtain ⟨qb,ef,vY,ej⟩:=aOZ.1 aw;obtain rfl:ef=cI:=by rw [hD] at vY;exact (aMJ vY).symm
      have Du:∀ e∈ef.after,Region.binds .any e=true→e.on≠i:=λ e he af heq=>by
        have κ:=ej e he af;have aB:=(aOZ.1 hr).1;rw [heq] at κ;rcases aNI i l.size with cp | cp
        · simp [cp] at aB κ;rw [aB] at κ;cases κ
        · simp [aNo cp] at κ
      have zV:=vQ j ef hD fe qb Du;obtain ⟨cV,a2,a3⟩:=aPC zV;have Dw:∀ cs b,c2.op≠ .select cs b:=λ cs b=>j6 i c2 cs b ak;have ri:∀ cs b,ef.op≠ .select cs b:=λ cs b=>j6 j ef cs b hD;have keep:∀ aM a u,az aM a→az aM (a.put ef.dst u):=λ aM a u bo=>z2 _ _ _ bo (aOA c2 Dw a ef.dst u a3) (aOL c2 a ef.dst u a3);have vK:R j=true:=hR j ef hD fe λ e he af=>vU _ (ej e he af);have vV:∀ k,(l.setIfInBounds j true).getD k false=true→R k=true:=λ k aj=>by
        by_cases fF:j=k
        · rw [← fF];exact vK
        · rw [aN8 false fF] at aj;exact vU k aj
      have vT:∀ k,qg.getD k true=true→(l.setIfInBounds j true).getD k true=true:=λ k aj=>by
        by_cases fF:j=k
        · subst fF
          rcases aNI j l.size with cp | cp
          · simp [cp]
          · simp [aNo cp]
        · rw [aN8 true fF];exact vS k aj
      have vR:∀ k ok,ops[k]? =some ok→k≠i→(l.setIfInBounds j true).getD k true=false→
          (∀ e∈ok.after,Region.binds .any e=true→e.on≠i)→c2.apart ops ok=true:=λ k ok aj k9 wa jr=>by
        refine vQ k ok aj k9 ?_ jr;by_cases fF:j=k
        · subst fF;exact qb
        · rw [aN8 true fF] at wa;exact wa
      have vZ:=aOh hr (aOV fe);rcases κ with ⟨qc,u,I,hK⟩ | ⟨qc,κ⟩
      · refine ⟨ef,hD, .inl ⟨qc,u,I.of_same (aOA ef ri a c2.dst v cV).symm (aOL ef a c2.dst v cV).symm, ?_⟩⟩
        refine bu _ _ _ vV vT vR vZ (keep _ _ _ bo) ?_;rw [aNC _ _ fe,← aOg a v u a2];exact hK
      · refine ⟨ef,hD, .inr ⟨qc,λ w hw=> ?_⟩⟩
        refine aOf (λ a' w' aq=>⟨aq.2.1, ?_⟩) (Pw (az:=az w0) hD cV a2 ri eI (keep w0) (λ a d bo=>z2 _ _ _ bo Z Z) bo (κ w hw));have DB:az w' a':=by
          rcases aNI (aK j) 3 with bB | zY
          · exact z3 _ _ _ (aq.2.1 (by omega)) aq.1
          · rcases aS with aS | aS
            · exact aS _ _ _ aq.1
            · have:=vS j (aS j vK zY);rw [qb] at this;cases this
        refine bu _ _ _ vV vT vR vZ DB ?_;rw [aNC _ _ fe];exact aq.2.2
def G7 (F:List Nat) (P:Program) (ops:Array Oper) (Q:Exit→Act→World→Prop) (aK:Nat→Nat):List Nat→Act→World→Prop
  | [],a,w0=>∀ w,Ext w0 w→Q .normal a w
  | i::r,a,w0=>∃ o,ops[i]? =some o∧
      ((aK i=0∧∃ v,s9 F P ops w0 o v a∧G7 F P ops Q aK r (a.put o.dst v) w0)∨
       (aK i=1∧∃ v,Yields P ops o v a∧G7 F P ops Q aK r (a.put o.dst v) w0)∨
       (1<aK i∧∀ w,Ext w0 w→wpOp P ops Q i (λ a' w'=>(aK i=2→Mod F w0 w')∧G7 F P ops Q aK r a' w') a w))
theorem L8 (hs:Region.noSelect ops=true) (eI:∀ c a w,¬ Q (.panic c) a w):∀ (r:List Nat) (l:Array Bool) (a:Act) (w0:World),l.size=ops.size→hM ops aK r l=true→G7 F P ops Q aK r a w0→H9 F P ops Q aK r.length l a w0
  | [],l,a,w0,_,aS,h=>⟨by simpa [hM] using aS,h⟩
  | i::r,l,a,w0,ay,aS,h=>by
    obtain ⟨o,bl,h⟩:=h;have j6:=aOB hs;rcases h with ⟨aj,v,I,hK⟩ | ⟨aj,v,I,hK⟩ | ⟨aj,h⟩
    · simp only [hM,aj,aMF] at aS
      obtain ⟨⟨⟨hf,hr⟩,af⟩,aS⟩:=aS;obtain ⟨R,r1,r2,sI⟩:=Ib ay af;exact Z2 bl (by omega) j6 eI (λ w0 a=>s9 F P ops w0 o v a) (λ _ _ h=>h) (λ _ _ _ h he hw=>h.of_same he hw) (λ _ _ _ hx h=>h.on hx) R l r1 (.inr sI) _ _ _ _ r2 (λ _ h=>h) (aNT bl hf) (by simpa using hr) I
        (L8 hs eI r _ _ _ (by simpa using ay) aS hK)
    · simp only [hM,aj,aMF] at aS
      obtain ⟨⟨hf,hr⟩,aS⟩:=aS;exact Z2 bl (by omega) j6 eI (λ _ a=>Yields P ops o v a) (λ _ _ h=>Yields.axK h) (λ _ _ _ h he hw=>h.of_same he hw) (λ _ _ _ _ h=>h) (λ _=>true) l (λ _ _ _ _ _=>Z) (.inl λ _ _ _ h=>h) _ _ _ _ (λ _ _=>Z) (λ _ h=>h) (aNT bl hf) (by simpa using hr) I
        (L8 hs eI r _ _ _ (by simpa using ay) aS hK)
    · obtain ⟨k,lH⟩:∃ k,aK i=k+2:=⟨aK i - 2,by omega⟩
      simp only [hM,lH,aMF,aNq] at aS;obtain ⟨hr,aS⟩:=aS;refine ⟨λ aB=>(by rw [hr] at aB;cases aB),λ j aw=> ?_⟩;rw [hr] at aw;obtain rfl:j=i:=by simpa using aw
      exact ⟨o,bl, .inr ⟨aj,λ w hw=>aOf (λ a' w' aq=>⟨aq.1,L8 hs eI r _ _ _ (by simpa using ay) aS aq.2⟩) (h w hw)⟩⟩
theorem ax5 {a:Act} {w:World} (ba:List Nat) (hm:P.follows .mixedOrders=true) (aS:(Region.noSelect ops && (ba.length == ops.size) && hM ops aK ba (Array.replicate ops.size false))=true)
    (h:G7 F P ops (eT (Q .normal)) aK ba a w):(Code.region id ops true).wp P Q a w:=by
  simp only [aMF,aNq] at aS;obtain ⟨⟨hs,ay⟩,aS⟩:=aS;refine aQf (aOI hm (Q:=eT (Q .normal)) ?_) (λ e a w I=>by cases e<;>first | exact I | exact I.elim);have:=L8 (P:=P) hs (Q:=eT (Q .normal)) (λ _ _ _ h=>h) ba (Array.replicate ops.size false) a w (by simp) aS h;rw [ay] at this;exact E3 _ _ _ _ this _ (aNb _ w).drew
end
section
variable {F:List Nat} {P:Program} {n:Nat} {E cd:List (Nat×Value)} {a:Act} {w w' w0 aM:World} {Q:Exit→Act→World→Prop} {ops:Array Oper} {v:Value} {aK:Nat→Nat}
variable {d:Option Nat} {ty:TypeId} {pos:String} {aW:Array Edge} {g:Option (Nat×Bool)} {x y z:Operand} {t:TypeId} {rest:List Oper} {ba:List Nat} {i:Nat}
def xF (F:List Nat) (P:Program) (n:Nat) (ops:Array Oper) (Q:Exit→Act→World→Prop) (aK:Nat→Nat) (ba:List Nat) (E:List (Nat×Value)) (w0:World):Prop:=∀ a,c8 n E a→G7 F P ops (eT (Q .normal)) aK ba a w0
theorem axU (F:List Nat) (hO:List (Nat×Nat)) (ba:List Nat) (hm:P.follows .mixedOrders=true) (aS:(Region.noSelect ops && (ba.length == ops.size) && hM ops (j7 hO) ba (Array.replicate ops.size false))=true)
    (h:xF F P n ops Q (j7 hO) ba E w):W P n (.region id ops true) Q E w:=λ a ha=>ax5 ba hm aS (h a ha)
theorem apu (h:∀ w,Ext w0 w→N n Q E w):xF F P n ops Q aK [] E w0:=λ a ha w hw=>h w hw a ha
theorem aaa {d:Nat} (ak:ops[i]? =some ⟨some d,op,ty,pos,aW,none⟩) (aj:aK i=0) (hr:∀ w,Mod F w0 w→cF P E ⟨some d,op,ty,pos,aW,none⟩ w v w) (hd:Nat.blt d n=true)
    (h:xF F P n ops Q aK ba ((d,v)::E) w0):xF F P n ops Q aK (i::ba) E w0:=λ a ha =>
  ⟨_,ak, .inl ⟨aj,v, .inl ⟨qG rfl,λ w hw=>by rw [hr w hw n a ha];exact ⟨rfl,rfl⟩⟩,h _ (ha.put hd v)⟩⟩
theorem apK {d:Nat} (ak:ops[i]? =some ⟨some d,op,ty,pos,aW,none⟩) (aj:aK i=1) (hr:∀ w,cF P E ⟨some d,op,ty,pos,aW,none⟩ w v w) (hd:Nat.blt d n=true)
    (h:xF F P n ops Q aK ba ((d,v)::E) w0):xF F P n ops Q aK (i::ba) E w0:=λ a ha =>
  ⟨_,ak, .inr (.inl ⟨aj,v, .inl ⟨qG rfl,λ w=>hr w n a ha⟩,h _ (ha.put hd v)⟩)⟩
theorem apL (aT:o.guard=none) (ak:ops[i]? =some o) (aj:aK i=2) (h:∀ w,Ext w0 w→A4 P n ops o E w λ cd w'=>Mod F w0 w'∧xF F P n ops Q aK ba cd w'):xF F P n ops Q aK (i::ba) E w0:=λ a ha =>
  ⟨_,ak, .inr (.inr ⟨by omega,λ w hw=>Ec aT ak (h w hw) (λ cd w' a' aj ot=>⟨λ _=>aj.1,aj.2 a' ot⟩) ha⟩)⟩
theorem ao8 (aT:o.guard=none) (ak:ops[i]? =some o) (aj:aK i=3) (h:∀ w,Ext w0 w→A4 P n ops o E w λ cd w'=>xF F P n ops Q aK ba cd w'):xF F P n ops Q aK (i::ba) E w0:=λ a ha =>
  ⟨_,ak, .inr (.inr ⟨by omega,λ w hw=>Ec aT ak (h w hw) (λ cd w' a' aj ot=>⟨λ τ=>by omega,aj a' ot⟩) ha⟩)⟩
end
end
section
variable {l:List bC}
def jb (W:ae) (l:List bC):Int:=if lQ W l≠0 then lQ W l else if 1000000≤W.now then 6 else 0
def wW (W:ae) (l:List bC):ae:=ub W (hi W l l.length)
noncomputable def yL (W:ae) (l:List bC):ae:=oH (wW W l) (hj W l l.length)
noncomputable def pA (W:ae) (l:List bC):ae:=(yL W l).si (hQ W l l.length)
noncomputable def ie (W:ae) (l:List bC):ae:=if jb W l≠0 then ae.zero else {pA W l with now:=(pA W l).now+1}
def oO (W:ae) (l:List bC):List Int:=if jb W l≠0 then [] else yI W (hi W l l.length)
noncomputable def oP (W:ae) (l:List bC):List Int:=if jb W l≠0 then [] else rA (wW W l) (hj W l l.length)
noncomputable def mv (W:ae) (l:List bC):List Bool:=if jb W l≠0 then [] else (yL W l).vE (hQ W l l.length)
theorem agj {W:ae} (h:jb W l≠0):ie W l=ae.zero∧oO W l= []∧oP W l= []∧mv W l= []:=by
 unfold ie oO oP mv;simp only [aMI h,and_self]
theorem O6 {W:ae} (h:jb W l=0):ie W l= {pA W l with now:=(pA W l).now+1}∧oO W l=yI W (hi W l l.length)∧oP W l=rA (wW W l) (hj W l l.length)∧mv W l=(yL W l).vE (hQ W l l.length):=by
 have cp:¬ jb W l≠0:=by simpa using h
 unfold ie oO oP mv;simp only [aMA cp,and_self]
theorem Vb {W:ae} (h:jb W l=0):lQ W l=0∧W.now<1000000∧W.a7=0∧l.length≤100:=by
 unfold jb at h;split at h
 ·contradiction
 ·rename_i κ
  have κ:lQ W l=0:=by simpa using κ
  split at h
  ·exact nomatch h
  ·exact ⟨κ,by omega,(UY κ).2,ayZ κ⟩
theorem am6 {W:ae} {l:List c9} (h:W.a7=0) (ay:l.length≤200):W.pY l=0∧W.si l=(W.gY l).1:=by
 have e:W.pY l=0:=by unfold ae.pY;rw [aMA (by omega),aMA (by omega)]
 exact ⟨e,by unfold ae.si;rw [aMI e]⟩
theorem X9 {W:ae} {l:List eM} (h:W.a7=0) (ay:l.length≤200):lD W l=0:=by unfold lD;rw [aMA (by omega),aMA (by omega)]
theorem agi {W:ae} (h:jb W l=0):lD W (hi W l l.length)=0∧qu (wW W l) (hj W l l.length)=0∧(yL W l).pY (hQ W l l.length)=0∧Good (wW W l)∧Good (yL W l)∧Good (pA W l):=by
 obtain ⟨κ,τ,aq,bb⟩:=Vb h;obtain ⟨qX,e_,gD⟩:=U2 W l l.length;have aR:=X9 (l:=hi W l l.length) aq (by omega);have g1:Good (wW W l):=(aga aR).right;have a6:=(J8 (W:=wW W l) (l:=hj W l l.length) g1.a7 (by omega)).1;have g2:Good (yL W l):=(avo a6).1;obtain ⟨cM,iV⟩:=am6 (W:=yL W l) (l:=hQ W l l.length) g2.a7 (by omega);refine ⟨aR,a6,cM,g1,g2, ?_⟩;unfold pA;rw [iV];exact g2.gY _
def L4 (W:ae) (l:List bC) (w:World) (e:Ending) (w':World):Prop :=
 ∃ a' fp bS cc bd cz bP,e= .returned (.tuple #[.agg (ae.cells a' (ie W l)).toArray, .agg #[.slice fp (oO W l).length bS, .slice cc (oP W l).length bd, .slice cz (mv W l).length bP],γ (jb W l)])∧bt w' w.heap.size a' (ie W l)∧
  bz.aL 3 8 w' w.heap.size (Φ.ab fp) fp bS (oO W l)∧bz.aL 3 8 w' w.heap.size (Φ.ab cc) cc bd (oP W l)∧nQ.aL 4 1 w' w.heap.size (Φ.ab cz) cz bP (mv W l)∧
  (∀ q,(q∈Φ.ab fp∨q∈Φ.ab cc∨q∈Φ.ab cz)→q∉bt.cA a')∧Ext w w'
theorem azz (a:ae.cU) (W:ae) (A:Option Addr) (c:Nat) (l:List bC) (w:World) (b8:ae.Has w a W) (ay:bC.rep.aQ 48 w A c l) (κ:lQ W l≠0):
  Calls prog 71 #[.agg ((ae.cells a W).toArray), .slice A l.length c] w (L4 W l w):=by
 have dt:(lQ W l == 0)=false:=by simpa using κ
 have ey:(lQ W l != 0)=true:=by simpa using κ
 refine cx (n:=62) func71 Z Z Z ?_;refine eW Z Z λ dn bw bm fO ag=> ?_;have ja:=ag.lt;refine dj p0 Z λ fP dI bD j8 aF=> ?_;have b7:=J bm bD;have qx:=aF.lt;refine dj zH Z λ iM iT b3 rm bI=> ?_;have c1:=J b7 b3;refine aU Z<|aN Z<| ?_;have ag:=ag.later (J bD b3);refine aa (aA Z (ag.all fb cP))<|de Rt Z (ay0 _ _ l a W _ (ay.keep c1) (b8.keep c1) κ) λ qF eC=> ?_;have gR:=J c1 eC;refine vm Z<|b2 Z Z<|b2 Z Z<|b2 Z Z<|b2 Z Z<|va Z<|va Z<|va Z<|aU Z<|aI<|aN Z<|aa (beq Z Z)<|vm (gl Z dt)<|yO Z<|yO Z<|yO Z<|aa (pn Z Z)<|aJ<|hL Z<| ?_;refine bF<|aI<|aN Z<|gJ Z Z<|aJ<|gX (gl Z ey)<|aG<|aa (v:= .agg #[γ 0,γ 0, .slice none 0 0, .slice none 0 0, .slice none 0 0, .slice none 0 0, .slice none 0 0,γ 0,γ 0]) (ht Z)<|aa (v:= .agg #[.slice none 0 0, .slice none 0 0, .slice none 0 0]) (ht Z)<|vm Z<| ?_;have aF:=aF.later (J b3 eC);refine c6 Z Z aF Z cP Z Z λ yR BN aF=> ?_;have lq:=Ext.mod gR BN bE;have bI:=(bI.later eC).mod BN aY;refine c6 Z Z bI Z sj Z Z λ Ca Ac bI=> ?_;have oZ:=Ext.mod lq Ac bE;refine bL Z<|cW<| ?_;have aF:=aF.mod Ac aY;refine dR (.cell Z (aF.all fb cP) (.cell Z (bI.all MS sj) (.tmp Z .nil)))<| ?_;have e0:jb W l=lQ W l:=by unfold jb;rw [aMI κ]
 obtain ⟨kt,z2,z3,z4⟩:=agj (W:=W) (l:=l) (by rw [e0];first | exact κ | decide);exact ⟨⟨none,none,none,none,none,0,0,0,0,0⟩,none,0,none,0,none,0,by rw [e0,kt,z2,z3,z4];rfl,by rw [kt];exact bt.zero _ _,by rw [z2];exact Φ.aL.nil _,by rw [z3];exact Φ.aL.nil _,by rw [z4];exact Φ.aL.nil _,λ q I=>by simp [Φ.ab] at I,oZ⟩
theorem azA (a:ae.cU) (W:ae) (A:Option Addr) (c:Nat) (l:List bC) (w:World) (b8:ae.Has w a W) (ay:bC.rep.aQ 48 w A c l) (κ:lQ W l=0) (τ:1000000≤W.now):
  Calls prog 71 #[.agg ((ae.cells a W).toArray), .slice A l.length c] w (L4 W l w):=by
 refine cx (n:=62) func71 Z Z Z ?_;refine eW Z Z λ dn bw bm fO ag=> ?_;have ja:=ag.lt;refine dj p0 Z λ fP dI bD j8 aF=> ?_;have b7:=J bm bD;have qx:=aF.lt;refine dj zH Z λ iM iT b3 rm bI=> ?_;have c1:=J b7 b3;refine aU Z<|aN Z<| ?_;have ag:=ag.later (J bD b3);refine aa (aA Z (ag.all fb cP))<|ca Rt Z Z ((af3 _ _ l a W _ (ay.keep c1) (b8.keep c1) κ).mono ?_);rintro e Ca ⟨ah1,alN,ah2,alO,ah3,alP,rfl,LJ,EU,EV,kZ⟩;refine cK ?_;have oZ:=J c1 kZ;refine vm Z<|b2 Z Z<|b2 Z Z<|b2 Z Z<|b2 Z Z<|va Z<|va Z<|va Z<|aU Z<|aI<|aN Z<|aa (beq Z Z)<|vm Z<|jR Z Z Z<|aa (ar Iz Z)<|jR Z Z Z<| ?_;have ag:=ag.later kZ;refine bA Z ag aZ Z<|jR Z Z Z<|aa (k7 Z Z)<|aa (oL Z Z)<|aJ<| ?_;have SH:(decide (1000000≤W.now))=true:=by exact aMV τ
 refine gX (by rw [← SH];rfl)<|rg<|aU Z<|aI<|aN Z<|gJ Z Z<|aJ<|gX Z<|aG<|aa (v:= .agg #[γ 0,γ 0, .slice none 0 0, .slice none 0 0, .slice none 0 0, .slice none 0 0, .slice none 0 0,γ 0,γ 0]) (ht Z)<|aa (v:= .agg #[.slice none 0 0, .slice none 0 0, .slice none 0 0]) (ht Z)<|vm Z<| ?_;have aF:=aF.later (J b3 kZ);refine c6 Z Z aF Z cP Z Z λ Vx BO aF=> ?_;have AK:=Ext.mod oZ BO bE;have bI:=(bI.later kZ).mod BO aY;refine c6 Z Z bI Z sj Z Z λ xc ru bI=> ?_;have jT:=Ext.mod AK ru bE;refine bL Z<|cW<| ?_;have aF:=aF.mod ru aY;refine dR (.cell Z (aF.all fb cP) (.cell Z (bI.all MS sj) (.tmp Z .nil)))<| ?_;have e0:jb W l=6:=by unfold jb;rw [aMA (by simpa using κ),aMI τ]
 obtain ⟨kt,z2,z3,z4⟩:=agj (W:=W) (l:=l) (by rw [e0];first | exact κ | decide);exact ⟨⟨none,none,none,none,none,0,0,0,0,0⟩,none,0,none,0,none,0,by rw [e0,kt,z2,z3,z4];rfl,by rw [kt];exact bt.zero _ _,by rw [z2];exact Φ.aL.nil _,by rw [z3];exact Φ.aL.nil _,by rw [z4];exact Φ.aL.nil _,λ q I=>by simp [Φ.ab] at I,jT⟩
theorem azB (a:ae.cU) (W:ae) (A:Option Addr) (c:Nat) (l:List bC) (w:World) (b8:ae.Has w a W) (ay:bC.rep.aQ 48 w A c l) (aB:jb W l=0):
  Calls prog 71 #[.agg ((ae.cells a W).toArray), .slice A l.length c] w (L4 W l w):=by
 obtain ⟨κ,τ,aq,bb⟩:=Vb aB;obtain ⟨aR,a6,cM,g1,g2,g3⟩:=agi aB;have ar3:0≤(pA W l).now∧(pA W l).now≤1000000:=g3.now;refine cx (n:=62) func71 Z Z Z ?_;refine eW Z Z λ dn bw bm fO ag=> ?_;have ja:=ag.lt;refine dj p0 Z λ fP dI bD j8 aF=> ?_;have b7:=J bm bD;have qx:=aF.lt;refine dj zH Z λ iM iT b3 rm bI=> ?_;have c1:=J b7 b3;have yF:=bI.lt;refine aU Z<|aN Z<| ?_;have ag:=ag.later (J bD b3);refine aa (aA Z (ag.all fb cP))<|ca Rt Z Z ((af3 _ _ l a W _ (ay.keep c1) (b8.keep c1) κ).mono ?_);rintro e Ca ⟨ah1,alN,ah2,alO,ah3,alP,rfl,LJ,EU,EV,kZ⟩;refine cK ?_;have:=kZ.size;have oZ:=J c1 kZ;have GZ:=bY EU.lt;have auW:=dJ EU.lt;have agu:=bY EV.lt;have ad3:=dJ EV.lt;refine vm Z<|b2 Z Z<|b2 Z Z<|b2 Z Z<|b2 Z Z<|va Z<|va Z<|va Z<|aU Z<|aI<|aN Z<|aa (beq Z Z)<|vm Z<|jR Z Z Z<|aa (ar Iz Z)<|jR Z Z Z<| ?_;have ag:=ag.later kZ;refine bA Z ag aZ Z<|jR Z Z Z<|aa (k7 Z Z)<|aa (oL Z Z)<|aJ<| ?_;have SH:(decide (1000000≤W.now))=false:=by exact aMY (by omega)
 refine hL (by rw [← SH];rfl)<|bF<|aI<|aN Z<|gJ Z Z<|aJ<|hL Z<|bF<|aG<|dj zH Z λ Vx aD7 fk aHN o2=> ?_;have:=fk.size;have AK:=J oZ fk;have aJ3:=o2.lt;refine aJ<|aG<| ?_;have ag:=ag.later fk;refine aa (aA Z (ag.all fb cP))<|vm Z<| ?_;have LJ:=LJ.later fk;refine ca an0 Z Z ((azf (hi W l (l).length) _ _ a W _ (b8.keep AK) LJ.has).mono ?_);rintro e xd ⟨a40,ahL,aly,rfl,Lr,HN,aFR,iq⟩;refine cK ?_;have:=iq.size;have nk:=J AK iq;have wk:=dJ Lr.lt;have O_:=bY HN.lt;have Aa:=dJ HN.lt;refine vm Z<|b2 Z Z<|b2 Z Z<|b2 Z Z<| ?_;have ag:=ag.later iq;refine st Z Z ag Z cP Z Z Z λ Pk rv ag=> ?_;have:=rv.size;have sW:=Ext.mod nk rv bE;refine aa (ar Zy Z)<| ?_;have o2:=(o2.later iq).mod rv aY;refine fH Z Z o2 Z x_ Z Z λ En fY o2=> ?_;have:=fY.size;have l0:=Ext.mod sW fY bE;refine aJ<|aG<| ?_;have ag:=ag.mod fY aY;refine aa (aA Z (ag.all fb cP))<|vm Z<| ?_;have EU:=((EU.later (J fk iq)).mod rv (bG auW)).mod fY (bk GZ);have Lr:=(Lr.mod rv (bG wk)).mod fY (bG wk);refine ca an1 Z Z ((avS a40 (ub W (hi W l (l).length)) _ _ (hj W l (l).length) _ Lr.has EU.has).mono ?_);rintro e Eo ⟨aky,ahM,alz,rfl,Ls,HQ,aFS,lV⟩;refine cK ?_;have:=lV.size;have pJ:=J l0 lV;have ad9:=dJ Ls.lt;have B_:=bY HQ.lt;have DH:=dJ HQ.lt;refine vm Z<|b2 Z Z<|b2 Z Z<|b2 Z Z<| ?_;have ag:=ag.later lV;refine st Z Z ag Z cP Z Z Z λ VD oG ag=> ?_;have:=oG.size;have uM:=Ext.mod pJ oG bE;refine aa (ar Zz Z)<| ?_;have o2:=(o2.later lV).mod oG aY;refine fH Z Z o2 Z x_ Z Z λ Pn Af o2=> ?_;have:=Af.size;have xu:=Ext.mod uM Af bE;refine aJ<|aG<| ?_;have ag:=ag.mod Af aY;refine aa (aA Z (ag.all fb cP))<|vm Z<| ?_;have EV:=(((((EV.later (J fk iq)).mod rv (bG ad3)).mod fY (bk agu)).later lV).mod oG (bG ad3)).mod Af (bk agu);have Ls:=(Ls.mod oG (bG ad9)).mod Af (bG ad9);refine ca an2 Z Z ((am7 (hQ W l (l).length) _ _ _ aky (oH (ub W (hi W l (l).length)) (hj W l (l).length)) Ls.has EV.has).mono ?_);rintro e VG ⟨QP,WA,al1,rfl,CE,LA,aq4,fo⟩;refine cK ?_;have uO:=J xu fo;have DI:=dJ CE.lt;have JS:=dJ LA.lt;have amY:∀ q∈Φ.ab WA,q∈bt.cA QP→False:=aq4;refine vm Z<|b2 Z Z<|b2 Z Z<|b2 Z Z<| ?_;have ag:=ag.later fo;refine st Z Z ag Z cP Z Z Z λ Ep kD ag=> ?_;have jV:=Ext.mod uO kD bE;refine aa (ar ZA Z)<| ?_;have o2:=(o2.later fo).mod kD aY;refine fH Z Z o2 Z ZB Z Z λ agV BT o2=> ?_;have Wh:=Ext.mod jV BT bE;refine aJ<|aG<|aa (ar Iz Z)<| ?_;have ag:=ag.mod BT aY;refine bA Z ag aZ Z<|aa (bad Z Z (la ((by have I:_∧_:=ar3;unfold pA yL wW at I;omega))))<|aa (ar Iz Z)<|fH Z Z ag Z cr Z Z λ agW wK ag=> ?_;have Ld:=Ext.mod Wh wK bE;refine aJ<|aI<| ?_;refine axU [dI] [(0,0),(1,0),(2,2),(3,3)] [0,1,2,3,4] (by kernel_rfl) (by kernel_rfl) ?_;refine aaa Z Z (λ _ x=>aA Z ((ag.mod x aY).all fb cP)) Z<| ?_;have o2:=o2.mod wK aY;refine aaa Z Z (λ _ x=>aA Z ((o2.mod x aY).all MS sj)) Z<| ?_;have aF:=(((((((((aF.later (J b3 (J kZ (J fk iq)))).mod rv aY).mod fY aY).later lV).mod oG aY).mod Af aY).later fo).mod kD aY).mod BT aY).mod wK aY;refine apL Z Z Z λ Pt jE Q hK=>c6 Z Z (aF.later jE) Z cP Z Z λ aAz rz aF=>hK _ _ ⟨(Mod.aP jE).trans rz, ?_⟩;have uQ:=J Ld jE;have PN:=Ext.mod uQ rz bE;have bI:=(((((((((((bI.later (J kZ (J fk iq))).mod rv aY).mod fY aY).later lV).mod oG aY).mod Af aY).later fo).mod kD aY).mod BT aY).mod wK aY).later jE).mod rz aY;refine ao8 Z Z Z λ ag0 lR Q hK=>c6 Z Z (bI.later lR) Z sj Z Z λ Vr lJ bI=>hK _ _ ?_;have Lf:=J PN lR;have AH:=Ext.mod Lf lJ bE;refine apK Z Z (λ _=>eQ Z) Z<|apu λ Vs xg=> ?_;have EA:=J AH xg;refine br<|rt<| ?_;have aF:=((aF.later lR).mod lJ aY).later xg;have bI:=bI.later xg;refine dR (.cell Z (aF.all fb cP) (.cell Z (bI.all MS sj) (.tmp Z .nil)))<| ?_;have CE:=(((((((CE.mod kD (bG DI)).mod BT (bG DI)).mod wK (bG DI)).later jE).mod rz (bG DI)).later lR).mod lJ (bG DI)).later xg;have HN:=(((((((((((((HN.mod rv (bG Aa)).mod fY (bG Aa)).later lV).mod oG (bG Aa)).mod Af (bG Aa)).later fo).mod kD (bG Aa)).mod BT (bG Aa)).mod wK (bG Aa)).later jE).mod rz (bG Aa)).later lR).mod lJ (bG Aa)).later xg;have HQ:=((((((((((HQ.mod oG (bG DH)).mod Af (bG DH)).later fo).mod kD (bG DH)).mod BT (bG DH)).mod wK (bG DH)).later jE).mod rz (bG DH)).later lR).mod lJ (bG DH)).later xg;have LA:=(((((((LA.mod kD (bG JS)).mod BT (bG JS)).mod wK (bG JS)).later jE).mod rz (bG JS)).later lR).mod lJ (bG JS)).later xg;obtain ⟨kt,z2,z3,z4⟩:=O6 aB;have hR:bt Vs w.heap.size QP (ie W l):=by rw [kt];exact (CE.down (by omega)).UQ Z Z Z Z Z ⟨CE.nums.1,CE.nums.2.1,CE.nums.2.2.1,cH.2 (by show _≤(pA W l).now+1∧(pA W l).now+1≤_;omega)⟩
 exact ⟨QP,ahL,aly,ahM,alz,WA,al1,by rw [aB,kt,z2,z3,z4];rfl,hR,by rw [z2];exact HN.down (by omega),by rw [z3];exact HQ.down (by omega),by rw [z4];exact LA.down (by omega),λ q I hf=>I.elim (λ I=>by exfalso;(have:=DI q hf;(have:=O_ q I;omega))) (λ I=>I.elim (λ I=>by exfalso;(have:=DI q hf;(have:=B_ q I;omega))) (λ I=>amY q I hf)),EA⟩
theorem Kw (a:ae.cU) (W:ae) (A:Option Addr) (c:Nat) (l:List bC) (w:World) (b8:ae.Has w a W) (ay:bC.rep.aQ 48 w A c l):Calls prog 71 #[.agg (ae.cells a W).toArray, .slice A l.length c] w (L4 W l w):=by
 by_cases κ:lQ W l=0
 ·by_cases τ:1000000≤W.now
  ·exact azA a W A c l w b8 ay κ τ
  ·exact azB a W A c l w b8 ay (by unfold jb;rw [aMA (by simpa using κ),aMA τ])
 ·exact azz a W A c l w b8 ay κ
end
section
variable {f:au} {c:ai} {r:Int} {k j:Nat}
theorem akq:dL prog ai.rep 49 98 16:=dL.jw (z:=ai.zero) (k:=2) underlying49 ai.info rfl rfl (by decide) ai.k3
theorem QT (h:f.cG c=0):f.a7=0∧0≤c.x∧c.x<f.wide∧0≤c.y∧c.y<f.high:=by
 have hc:f.a7=0:=by
  cases hd:decide (f.a7=0) with
  | true=>simpa using hd
  | false=>rw [(au.Mb (by simpa using hd)).1] at h;exact h
 have ak:=au.idx hc (H' hc h);exact ⟨hc,ak.2.2⟩
def wV (f:au) (c:ai) (r:Int):Nat:=(min (f.high - 1) (c.y+r) - max 0 (c.y - r)+1).toNat
def sK (f:au) (c:ai) (r:Int):Nat:=(min (f.wide - 1) (c.x+r) - max 0 (c.x - r)+1).toNat
def seenAt (c:ai) (r:Int) (k j:Nat):ai:=⟨max 0 (c.x - r)+(j:Int),max 0 (c.y - r)+(k:Int)⟩
def Kn (f:au) (c n:ai):Bool:=r6 f c n || r6 f n c
def nb (f:au) (c:ai) (r:Int) (k j:Nat):List ai:=((List.range j).map (seenAt c r k)).filter (Kn f c)
def oM (f:au) (c:ai) (r:Int) (k:Nat):List ai:=(List.range k).flatMap λ i=>nb f c r i (sK f c r)
theorem afL (f:au) (c:ai) (r:Int) (k:Nat):oM f c r (k+1)=oM f c r k++nb f c r k (sK f c r):=by unfold oM;rw [aNG,aNX];simp
theorem afI (f:au) (c:ai) (r:Int) (k:Nat):nb f c r k 0= []:=rfl
theorem ayy (h:Kn f c (seenAt c r k j)=true):nb f c r k (j+1)=nb f c r k j++ [seenAt c r k j]:=by
 unfold nb;rw [aNG,aM0,aNv,aNc,aNP,aNB,aMI h];rfl
theorem ayx (h:Kn f c (seenAt c r k j)=false):nb f c r k (j+1)=nb f c r k j:=by
 unfold nb;rw [aNG,aM0,aNv,aNc,aNP,aNB,aMA (by rw [h];decide)];simp
theorem afJ (f:au) (c:ai) (r:Int) (k j:Nat):(nb f c r k j).length≤j:=by unfold nb;exact aMR (aN1 _ _) (by simp)
theorem afK (f:au) (c:ai) (r:Int):∀ k,(oM f c r k).length≤k * sK f c r
 | 0=>aNl _
 | k+1=>by
  have κ:=afK f c r k;have τ:=afJ f c r k (sK f c r);rw [afL,aMB,aNU];omega
def qA (f:au) (c:ai) (r:Int):Int:=if f.cG c≠0 then f.cG c else if r<0∨12<r then 1 else 0
def gz (f:au) (c:ai) (r:Int):List ai:=if qA f c r≠0 then [] else oM f c r (wV f c r)
theorem afM (h:f.cG c=0) (hr:0≤r∧r≤12):qA f c r=0∧gz f c r=oM f c r (wV f c r):=by
 have e:qA f c r=0:=by unfold qA;rw [aMA (by simpa using h),aMA (by omega)]
 exact ⟨e,by unfold gz;rw [aMA (by simpa using e)]⟩
theorem ayD (h:¬ f.cG c=0):qA f c r=f.cG c∧gz f c r= []:=by
 have e:qA f c r=f.cG c:=by unfold qA;rw [aMI h]
 exact ⟨e,by unfold gz;rw [e,aMI h]⟩
theorem ayE (h:f.cG c=0) (hr:r<0∨12<r):qA f c r=1∧gz f c r= []:=by
 have e:qA f c r=1:=by unfold qA;rw [aMA (by simpa using h),aMI hr]
 exact ⟨e,by unfold gz;rw [e];rfl⟩
theorem ayz (f:au) (c:ai) (r:Int) (A:Option Addr) (Mt:Nat) (w:World) (bJ:bz.aQ 8 w A Mt f.places):
  Calls prog 96 #[.agg #[γ f.wide,γ f.high, .slice A f.places.length Mt], .agg #[γ c.x,γ c.y],γ r] w (λ e w'=>∃ A cn,e= .returned (.tuple #[.slice A (gz f c r).length cn,γ (qA f c r)])∧ai.rep.aL 98 16 w' w.heap.size (Φ.ab A) A cn (gz f c r)∧Ext w w'):=by
 refine cx (n:=81) func96 Z Z Z ?_;refine eW Z Z λ dn bw bm fO ag=> ?_;have ja:=ag.lt;refine jk Z Z λ fP dI bD j8 aF=> ?_;have b7:=J bm bD;refine va Z<|aU Z<|aI<|aG<| ?_;have ag:=ag.later bD;refine aa (aA Z (ag.all gZ gy))<|aa (aA Z (aF.all b0 bs))<|de o8 Z (p2 f c _ _ _ (bJ.keep b7)) λ iM gB=> ?_;have c1:=J b7 gB;refine vm Z<|b2 Z Z<|b2 Z Z<|va Z<|aU Z<|aN Z<|gJ Z Z<|aJ<| ?_;refine ob Z (λ l_=> ?_) (λ l_=> ?_)
 ·refine aN Z<|va Z<|bL Z<|cW<|hl Z Z Z<| ?_;obtain ⟨aR,a6⟩:=ayD (r:=r) l_;exact ⟨none,0,by rw [aR,a6];rfl,by rw [a6];exact Φ.aL.nil _,c1⟩
 ·obtain ⟨F1,hn⟩:=QT l_;obtain ⟨uK,qJ,sS,sT,Ha,K6⟩:=au.g_ F1;refine bF<|aI<|aN Z<|fI Z Z<|vm Z<|gw Z Z<|cb Z (λ hc=>iv (gt hc Z) Z)<|aa (gq Z Z Z Z)<|aJ<| ?_;refine c_ Z (λ tB=> ?_) (λ tB=> ?_)
  ·simp only [cq] at tB;refine aG<|va Z<|bL Z<|cW<|hl Z Z Z<| ?_;obtain ⟨aR,a6⟩:=ayE l_ (by omega);exact ⟨none,0,by rw [aR,a6];rfl,by rw [a6];exact Φ.aL.nil _,c1⟩
  ·simp only [cq] at tB;have tz:wV f c r≤25∧wV f c r=(min (f.high - 1) (c.y+r) - max 0 (c.y - r)+1).toNat:=by unfold wV;omega
   have b8:sK f c r≤25∧sK f c r=(min (f.wide - 1) (c.x+r) - max 0 (c.x - r)+1).toNat:=by unfold sK;omega
   have Jm:∀ k,k≤wV f c r→k * sK f c r≤625:=λ k aj=>aMR (aQn aj (aMO _)) (aMR (aQn tz.1 b8.1) (by decide));refine bF<|aG<|aU Z<|aI<|aG<|aa (ar hB Z)<| ?_;have aF:=aF.later gB;refine bA Z aF aZ Z<|vm Z<|aa (iH Z Z fN)<|aa (mx Z Z)<|aU Z<|bV<| ?_;have ag:=ag.later gB;refine gh (λ cL cw aV=>∃ k:Nat,∃ AQ:Option Addr,∃ Ih:Nat,cw= [(2,γ r),(3, .pointer (a_ bw)),(4, .pointer (a_ dI)),(6, .slice none 0 0),(7,γ 0),(10, .slice AQ ((oM f c r k).length) Ih),(11,γ ((max 0 (c.y - r))+(k:Int)))]∧cL=wV f c r - k∧Ext w aV∧aO aV bw [γ f.wide,γ f.high, .slice A f.places.length Mt] 48 (0,0)∧aO aV dI [γ c.x,γ c.y] 98 (0,0)∧ai.rep.aL 98 16 aV w.heap.size (Φ.ab AQ) AQ Ih (oM f c r k)∧(k≤wV f c r)∧(∀ q∈Φ.ab AQ,q=bw→False)∧(∀ q∈Φ.ab AQ,q=dI→False)) _ _ ⟨0,none,0,Z,Z,c1,ag,aF,(Φ.aL.nil _),by omega,(λ q I af=>by (simp [Φ.ab] at I)),(λ q I af=>by (simp [Φ.ab] at I))⟩ (eV Z Z Z) ?_;rintro Ab aC4 qF ⟨k,AQ,Ih,rfl,rfl,gR,ag,aF,dG,aj,amM,amO⟩;have tG:=afK f c r k;refine aI<|aN Z<|aa (ar an3 Z)<|bA Z ag aZ Z<|aa (iH Z Z fN)<|aa (ar hB Z)<|bA Z aF aZ Z<|vm Z<|fi Z Z<|aa (J' Z Z)<|aa (ble Z Z)<|aJ<| ?_;refine CW Z (λ SE=> ?_) (λ SE=> ?_)
   ·have nF:=Jm k aj;refine bF<|aI<|bV<|aG<|aa (ar hz Z)<|bA Z aF aZ Z<|vm Z<|aa (iH Z Z fN)<|aa (mx Z Z)<|aU Z<|bV<| ?_;refine gh (λ cL cw aV=>∃ j:Nat,∃ AR:Option Addr,∃ Ii:Nat,cw= [(2,γ r),(3, .pointer (a_ bw)),(4, .pointer (a_ dI)),(6, .slice none 0 0),(7,γ 0),(10, .slice AR ((oM f c r k++nb f c r k j).length) Ii),(11,γ ((max 0 (c.y - r))+(k:Int))),(12,γ ((max 0 (c.x - r))+(j:Int))),(34,γ ((max 0 (c.y - r))+(k:Int))),(35, .pointer (some ⟨bw,1,none⟩)),(36,γ f.high),(37,γ (f.high - 1)),(38, .pointer (some ⟨dI,1,none⟩)),(39,γ c.y),(40,γ r),(41,γ (c.y+r)),(42,γ (min (f.high - 1) (c.y+r))),(43, .bool (decide ((max 0 (c.y - r))+(k:Int)≤min (f.high - 1) (c.y+r)))),(46, .pointer (a_ dI)),(47,γ c.x),(48,γ r),(49,γ (c.x - r)),(50,γ (max 0 (c.x - r)))]∧cL=sK f c r - j∧Ext w aV∧aO aV bw [γ f.wide,γ f.high, .slice A f.places.length Mt] 48 (0,0)∧aO aV dI [γ c.x,γ c.y] 98 (0,0)∧ai.rep.aL 98 16 aV w.heap.size (Φ.ab AR) AR Ii (oM f c r k++nb f c r k j)∧(j≤sK f c r)∧(∀ q∈Φ.ab AR,q=bw→False)∧(∀ q∈Φ.ab AR,q=dI→False)) _ _ ⟨0,AQ,Ih,Z,Z,gR,ag,aF,(by rw [afI,aM4];exact dG),by omega,amM,amO⟩ (.cons Z (.cons Z (.cons Z (.cons Z (.cons Z (.cons (by rw [afI,aM4];rfl) (.cons Z (.cons (rp Z) (ib Z))))))))) ?_;rintro J1 aC8 Cb ⟨j,AR,Ii,rfl,rfl,n2,ag,aF,kd,aw,Fh,Mw⟩;have axy:=ag.lt;have afg:=aF.lt;have agv:=bY kd.lt;have nH:=afJ f c r k j;refine aI<|aN Z<|aa (ar C6 Z)<|bA Z ag aZ Z<|aa (iH Z Z fN)<|aa (ar hz Z)<|bA Z aF aZ Z<|vm Z<|fi Z Z<|aa (J' Z Z)<|aa (ble Z Z)<|aJ<| ?_;refine CW Z (λ I9=> ?_) (λ I9=> ?_)
    ·refine bF<|aI<|bV<|aN Z<|vm Z<|aa (v:= .agg #[γ ((max 0 (c.x - r))+(j:Int)),γ ((max 0 (c.y - r))+(k:Int))]) (ht Z)<|dj sk Z λ agN aEb K3 aHS xD=> ?_;have K9:=J n2 K3;have axA:=xD.lt;refine c6 Z Z xD Z bs Z Z λ xe tQ xD=> ?_;have:=tQ.size;have k2:=Ext.mod K9 tQ bE;refine aJ<|aG<| ?_;have ag:=(ag.later K3).mod tQ aY;refine aa (aA Z (ag.all gZ gy))<| ?_;have aF:=(aF.later K3).mod tQ aY;refine aa (aA Z (aF.all b0 bs))<|aa (aA Z (xD.all b0 bs))<|de MU Z (Mg f c ((⟨(max 0 (c.x - r))+(j:Int),(max 0 (c.y - r))+(k:Int)⟩:ai)) _ _ _ (bJ.keep k2) (by (try dsimp only);omega) (by (try dsimp only);omega)) λ VB ir=> ?_;have:=ir.size;have Cq:=J k2 ir;refine vm Z<| ?_;have ag:=ag.later ir;refine cb Z (λ hc=>aA Z (ag.all gZ gy))<| ?_;have xD:=xD.later ir;refine cb Z (λ hc=>aA Z (xD.all b0 bs))<| ?_;have aF:=aF.later ir;refine cb Z (λ hc=>aA Z (aF.all b0 bs))<|yN Z MU (λ hc=>gG (gt hc Z) (gG (gt hc Z) (gG (gt hc Z) Z))) (λ hc=>Mg f ((⟨(max 0 (c.x - r))+(j:Int),(max 0 (c.y - r))+(k:Int)⟩:ai)) c _ _ _ (bJ.keep Cq) (by (try dsimp only);omega) (by (try dsimp only);omega)) λ aAw ll=> ?_;have:=ll.size;have PM:=J Cq ll;refine aa (gq Z Z Z Z)<|aJ<| ?_;refine c_ Z (λ SN=> ?_) (λ SN=> ?_)
     ·refine rg<|vm Z<| ?_;have xD:=xD.later ll;refine aa (aA Z (xD.all b0 bs))<|b9 (e:= 98) (cs:= [γ ((max 0 (c.x - r))+(j:Int)),γ ((max 0 (c.y - r))+(k:Int))]) Z (λ _=>by kernel_rfl) Z λ agP aEi qI aH0 Ho=> ?_;have Hg:=J PM qI;have aKe:=Ho.lt;have kd:=((kd.later K3).mod tQ (bk agv)).later (J ir (J ll qI));refine ap akq Φ.cZ kd (aO.fu (R:=ai.rep) (by_:=16) (q:=(⟨(max 0 (c.x - r))+(j:Int),(max 0 (c.y - r))+(k:Int)⟩:ai)) Ho ⟨Z,⟨fZ,fZ⟩⟩ (by decide)) Z Z (by simp only [aMB,aMw,aMz];omega) (by simp only [aMB,aMw,aMz];omega) Hg.size Z λ KP aid al0 yB aj5 aam aI7=> ?_;have rS:=Ext.mod Hg yB (λ q I=>(kd.lt q I).1);refine va Z<|nl<|cm<|br<|rg<|vm Z<|fi Z Z<|va Z<|nl<| ?_;have a6:oM f c r k++nb f c r k (j+1)=oM f c r k++nb f c r k j++ [(⟨(max 0 (c.x - r))+(j:Int),(max 0 (c.y - r))+(k:Int)⟩:ai)]:=by rw [ayy SN,← aM6];rfl
      have ag:=(ag.later (J ll qI)).mod yB (λ I=>Fh _ I rfl);have aF:=(aF.later (J ll qI)).mod yB (λ I=>Mw _ I rfl);exact lM _ _ ⟨j+1,aid,al0,Z,Z,rS,ag,aF,(by rw [a6];exact aj5),by omega,(gp aam Fh),(gp aam Mw)⟩ (by omega) (.cons Z (.cons Z (.cons Z (.cons Z (.cons Z (.cons (by rw [a6];rfl) (.cons Z (.cons (rp Z) (ib Z)))))))))
     ·refine gb<|cm<|br<|rg<|vm Z<|fi Z Z<|va Z<|nl<| ?_;have a6:oM f c r k++nb f c r k (j+1)=oM f c r k++nb f c r k j:=by rw [ayx SN]
      have ag:=ag.later ll;have aF:=aF.later ll;have kd:=((kd.later K3).mod tQ (bk agv)).later (J ir ll);exact lM _ _ ⟨j+1,AR,Ii,Z,Z,PM,ag,aF,(by rw [a6];exact kd),by omega,Fh,Mw⟩ (by omega) (.cons Z (.cons Z (.cons Z (.cons Z (.cons Z (.cons (by rw [a6];rfl) (.cons Z (.cons (rp Z) (ib Z)))))))))
    ·refine er<|ep<|eY<|eo<|cm<|br<|rg<|vm Z<|fi Z Z<|va Z<|nl<| ?_;have RM:j=sK f c r:=by omega
     have aR:oM f c r (k+1)=oM f c r k++nb f c r k j:=by rw [RM];exact afL f c r k
     exact lM _ _ ⟨k+1,AR,Ii,Z,Z,n2,ag,aF,(by rw [aR];exact kd),by omega,Fh,Mw⟩ (by omega) (.cons Z (.cons Z (.cons Z (.cons Z (.cons Z (.cons (by rw [aR];rfl) (eV Z Z Z)))))))
   ·refine er<|ep<|eY<|eo<|br<|aN Z<|va Z<|bL Z<|hl Z Z Z<| ?_;have mL:k=wV f c r:=by omega
    subst mL;obtain ⟨aR,a6⟩:=afM l_ (by omega);exact ⟨AQ,Ih,by rw [aR,a6];rfl,by rw [a6];exact dG,gR⟩
end
theorem amA (A:Option Addr) (len c n:Nat) (w:World) (hn:1≤n):
  Calls prog 81 #[.slice A len c,γ (n:Int)] w (λ e w'=>∃ e_ gD,e= .returned (.func (.func 105) #[] #[.pointer (a_ e_), .pointer (a_ gD)])∧aO w' e_ [.slice A len c] 46 (0,0)∧aO w' gD [γ (n:Int)] 3 (0,0)∧w.heap.size≤e_∧e_<gD∧Ext w w'):=by
 refine cx (n:=9) func81 Z Z Z ?_;refine eW Z Z λ dn bw bm fO ag=> ?_;have ja:=ag.lt;refine jk Z Z λ fP dI bD j8 aF=> ?_;have b7:=J bm bD;refine aU Z<|aI<|aG<|bA Z aF aZ Z<|fI Z Z<|aJ<| ?_;have j3:(decide ((n:Int)<1))=false:=by rw [aMC];omega
 refine hL (by rw [← j3];rfl)<|bF<|aG<|aa (J_ Z Z)<|bL Z<|c' Z Z<| ?_;have ag:=ag.later bD;exact ⟨bw,dI,Z,ag,aF,by omega,by omega,b7⟩
theorem amC (q n len c e_ gD:Nat) (A:Option Addr) (w0:World) (hn:1≤n) (hlen:len=q * n) (aF3:len≤c) (p9:c≤9223372036854775807) (m:Nat) (WE:aO w0 e_ [.slice A len c] 46 (0,0)) (WG:aO w0 gD [γ (n:Int)] 3 (0,0)):
  SeqStopsK (jH none) m prog 105 #[.pointer (a_ e_), .pointer (a_ gD)] (λ k:Fin q=>#[.slice (ez A (k.1 * n+n) (k.1 * n) 1) n n]) (zh e_ gD) (λ xs=>xs=List.finRange q) (λ _=>True) q w0:=by
 intro l jj aDn W af aaR aFF aqj arx;have l1:=WE.N6 (af.block e_ WE.lt);have np:=WG.N6 (af.block gD WG.lt);have ye:CI W.heap.size jj [] W:=⟨aaR,arx⟩;refine Rd.amb (n:=31) func105 Z Z Z ?_;refine Rd.aI<|Rd.rg<|va Z<|nl<|Rd.br<|Rd.bV<| ?_;refine Rd.gh (λ cL cw aV=>∃ k:Nat,cw= [(0, .func (.yield l) #[] #[]),(1, .pointer (a_ e_)),(2, .pointer (a_ gD)),(4,γ (((k * n:Nat):Int)))]∧cL=q - k∧True∧aO aV e_ [.slice A len c] 46 (0,0)∧aO aV gD [γ (n:Int)] 3 (0,0)∧CI W.heap.size jj ((List.finRange q).take k) aV∧(k≤q)) _ _ ⟨0,Z,Z,trivial,l1,np,(ye:CI W.heap.size jj [] _),by omega⟩ (eV Z Z Z) ?_;rintro wA Ht dn ⟨k,rfl,rfl,dK,l1,np,ye,aj⟩;refine Rd.aI<|Rd.aI<|Rd.rg<|vm Z<|bA Z l1 fC Z<|aa (dC underlying46 Z)<|fI Z Z<|nl<|Rd.br<| ?_;refine Rd.fM Z (λ oo=> ?_) (λ oo=> ?_)
 ·have F_:k<q:=Nat.lt_of_mul_lt_mul_right (a:=n) (by omega);have arG:k * n+n≤q * n:=by rw [← aNU];exact aNh _ F_
  refine Rd.gb<|Rd.br<|Rd.aI<|Rd.bV<|Rd.aI<| ?_;refine Rd.rd [(0,0),(1,0)] [0,1,2,3,4,5,6] (by kernel_rfl) (by kernel_rfl) ?_;refine cO Z Z np aZ Z<|cO Z Z l1 fC Z<|bn Z Z<|ax Z (λ _=>ayr (k * n) underlying46 cr Z Z Z (by omega))<|ax Z (λ _=>dC underlying46 Z)<|ax Z (λ _=>J' Z Z)<|ax Z (λ _=>eQ Z)<|fn λ G3 oX=> ?_;refine Rd.br<|Rd.aI<|nA.rg<|nA.ig (jx Z) Z<| ?_;have l1:=l1.later oX;refine nA.ig (aA Z (l1.one fC Z)) Z<|nA.ig (jx Z) Z<|nA.ig (jx Z) Z<|nA.ig (jx Z) Z<|nA.ig (bad Z Z fN) Z<|nA.ig (jx Z) Z<|nA.ig (jx Z) Z<|nA.ig (bad Z Z fN) Z<|nA.ig (ayq (k * n) (k * n+n) n underlying46 cr Z Z Z Z Z (by omega) (by omega) (by omega) (by omega) (by omega)) Z<| ?_;have np:=np.later oX;have ye:=ye.later oX;refine nA.aBg Z Z Z (aBh (aqj _ (⟨k,F_⟩:Fin q) _ ye.at_ (by rw [aME,aQS];omega)) ?_);rintro e ahc kk;obtain ⟨r7,rfl,κ,τ⟩:=aBk kk;refine ⟨_,Z, ?_⟩
  replace κ:r7=true→CI W.heap.size jj ((List.finRange q).take k++ [⟨k,F_⟩]) ahc∧zh e_ gD _ ahc:=λ h=>⟨⟨ye.QQ,(κ h).1⟩,(κ h).2⟩
  refine nA.ig (dH Z) Z<|nA.nl<|Rd.br<| ?_;refine Rd.c_ Z (λ I7=> ?_) (λ I7=> ?_)
  ·refine Rd.rt<|hk<|Rd.cW<|Ee<|hk<|dR .nil<| ?_;exact ⟨⟨_,Z⟩, .inr ⟨_,trivial,τ (by simpa using I7)⟩⟩
  ·obtain ⟨aqa,lH⟩:=κ (by simpa using I7);have l1:=l1.N6 lH.1;have np:=np.N6 lH.2;refine Rd.gb<|Rd.cm<|Rd.br<|Rd.rg<|vm Z<|bA Z np aZ Z<|fi Z Z<|va Z<|nl<| ?_;exact Rd.lM _ _ ⟨k+1,Z,Z,trivial,l1,np,(by rw [← ape F_];exact aqa),by omega⟩ (by omega) (.cons Z (.cons Z (.cons Z (.cons (BJ Z (by rw [aNU];omega)) .nil))))
 ·have F_:k=q:=Nat.le_antisymm aj (Nat.le_of_mul_le_mul_right (c:=n) (by omega) hn);refine Rd.er<|Rd.ep<|eY<|Rd.eo<|Rd.ne<|dR .nil<| ?_;exact ⟨⟨_,Z⟩, .inl ⟨_,Z,by have:=ye.at_;rwa [F_,aMU (by rw [aQS];omega)] at this⟩⟩
section
variable {f:au} {x j:Nat}
theorem Xg:dL prog Al 30 5 1:=dL.jw (z:= .int .u8 0) (k:=1) underlying30 as9 rfl rfl (by decide) (λ j u h=>axS j u h)
def GL (p:Int):UInt8:=([46,35,116,111]:List UInt8).getD p.toNat 0
def sJ (f:au) (k j:Nat):List UInt8:=(((f.places.drop (k * f.wide.toNat)).take (k * f.wide.toNat+f.wide.toNat - k * f.wide.toNat)).take j).map GL
def txt (f:au) (pre:List (Fin f.high.toNat)):List UInt8:=pre.flatMap λ k=>sJ f k.1 f.wide.toNat++ [10]
theorem agk (f:au) (pre:List (Fin f.high.toNat)) (x:Fin f.high.toNat):txt f (pre++ [x])=txt f pre++sJ f x.1 f.wide.toNat++ [10]:=by
 unfold txt;rw [aNX];simp
theorem afA (f:au) (k:Nat):sJ f k 0= []:=rfl
theorem afB (f:au) (k j:Nat):(sJ f k j).length≤j:=by unfold sJ;rw [aNf,aME];omega
theorem amB (A:Option Addr) (len c:Nat) (i:Int) (w:World) (ak:1≤i):Calls prog 81 #[.slice A len c,γ i] w (λ e w'=>∃ e_ gD,e= .returned (.func (.func 105) #[] #[.pointer (a_ e_), .pointer (a_ gD)])∧aO w' e_ [.slice A len c] 46 (0,0)∧aO w' gD [γ (i.toNat:Int)] 3 (0,0)∧w.heap.size≤e_∧e_<gD∧Ext w w'):=by
 have e:i=(i.toNat:Int):=by omega
 have:=amA A len c i.toNat w (by omega);rw [← e] at this;rw [← e];exact this
theorem au.avV (h:f.a7=0):f.places.length=f.high.toNat * f.wide.toNat:=by
 obtain ⟨uK,qJ,sS,sT,Ha,K6⟩:=au.g_ h;have aR:f.wide=(f.wide.toNat:Int):=by omega
 have a6:f.high=(f.high.toNat:Int):=by omega
 rw [aR,a6] at Ha;have:(f.places.length:Int)=((f.high.toNat * f.wide.toNat:Nat):Int):=by rw [Ha,Int.natCast_mul,Int.mul_comm]
 omega
theorem Vd (f:au):∀ pre:List (Fin f.high.toNat),(txt f pre).length≤pre.length * (f.wide.toNat+1)
 | []=>aNl _
 | x::r=>by
  have κ:=Vd f r;have τ:=afB f x.1 f.wide.toNat;have e:txt f (x::r)=sJ f x.1 f.wide.toNat++ [10]++txt f r:=rfl;rw [e,aMw,aNU];simp only [aMB,aMw,aMz];omega
theorem azF (f:au) (pre:List (Fin f.high.toNat)) (h:pre.length<f.high.toNat) (uK:1≤f.wide) (qJ:f.wide≤40) (sS:1≤f.high) (sT:f.high≤40):(txt f pre).length≤1640∧f.wide.toNat≤40:=by
 have κ:=Vd f pre;have τ:pre.length * (f.wide.toNat+1)≤40 * 41:=aQn (by omega) (by omega);omega
theorem aw5 {n:Nat} (h:∀ p∈f.places,0≤p∧p≤3) (hn:n=f.wide.toNat) (aw:x * n+j<f.places.length) (aFW:j<n):∃ p:Int,((f.places.drop (x * f.wide.toNat)).take (x * f.wide.toNat+f.wide.toNat - x * f.wide.toNat)).getD j 0=p∧0≤p∧p≤3:=by
 subst hn;refine ⟨_,Z, ?_⟩;have e:((f.places.drop (x * f.wide.toNat)).take (x * f.wide.toNat+f.wide.toNat - x * f.wide.toNat)).getD j 0=f.places[x * f.wide.toNat+j]:=by
  rw [aMv,aNe,aMI (by omega),aNz,aMy aw];rfl
 rw [e];exact h _ (aNK aw)
theorem aeZ {q:Int} (h:∃ p:Int,q=p∧0≤p∧p≤3):0≤q∧(aD [46,35,116,111]).data.toList[q.toNat]? =some (GL q):=by
 obtain ⟨p,rfl,aB,aq⟩:=h;have:q=0∨q=1∨q=2∨q=3:=by omega
 rcases this with rfl | rfl | rfl | rfl<;>exact ⟨by decide,rfl⟩
theorem afC (aw:j<((f.places.drop (x * f.wide.toNat)).take (x * f.wide.toNat+f.wide.toNat - x * f.wide.toNat)).length):sJ f x (j+1)=sJ f x j++ [GL (((f.places.drop (x * f.wide.toNat)).take (x * f.wide.toNat+f.wide.toNat - x * f.wide.toNat)).getD j 0)]:=by
 unfold sJ;rw [aMW aw,aM0,aMv,aMy aw];rfl
def ya (f:au):ByteArray:=if f.a7≠0 then aD [] else aD (txt f (List.finRange f.high.toNat))
theorem aAZ (h:¬ f.a7=0):ya f=aD []:=by unfold ya;rw [aMI h]
theorem aA0 (h:f.a7=0):ya f=aD (txt f (List.finRange f.high.toNat)):=by unfold ya;rw [aMA (by simpa using h)]
theorem aAY (f:au) (A:Option Addr) (c:Nat) (w:World) (bJ:bz.aQ 8 w A c f.places):
  Calls prog 62 #[.agg #[γ f.wide,γ f.high, .slice A f.places.length c]] w (λ e w'=>e= .returned (.tuple #[.string (ya f),γ f.a7])∧Ext w w'):=by
 refine Rd.cx (m:=5) (n:=37) func62 Z Z Z ?_;refine Rd.aI<|Rd.rg<|jk Z Z λ dn bw bm fO ag=> ?_;have:=bm.size;have ja:=ag.lt;refine va Z<|va Z<|nl<|Rd.br<|Rd.aI<|Rd.aI<|Rd.rg<|aa (aA Z (ag.all gZ gy))<|de an4 Z (RV f A c _ (bJ.keep bm)) λ fP d_=> ?_;have:=d_.size;have b7:=J bm d_;refine va Z<|nl<|Rd.br<|Rd.aI<|Rd.rg<|vm Z<|gJ Z Z<|nl<|Rd.br<| ?_;refine Rd.ob Z (λ hC=> ?_) (λ hC=> ?_)
 ·refine Rd.aI<|Rd.rg<|vm Z<|va Z<|va Z<|nl<|Rd.br<|Rd.rt<|Rd.cW<|Rd.dR (.tmp Z (.tmp Z .nil))<| ?_;exact ⟨by rw [aAZ hC];rfl,b7⟩
 ·obtain ⟨uK,qJ,sS,sT,Ha,K6⟩:=au.g_ hC;have tK:=au.km hC;have hlen:=au.avV hC;refine Rd.gb<|Rd.br<|Rd.aI<|Rd.rg<|dj an5 Z λ xa zr dY atD n5=> ?_;have:=dY.size;have iQ:=J b7 dY;have afe:=n5.lt;refine nl<|Rd.br<|Rd.aI<|Rd.aI<|Rd.rg<|aa (ar tu Z)<| ?_;have ag:=ag.later (J d_ dY);refine bA Z ag fC Z<|aa (ar C6 Z)<|bA Z ag aZ Z<|ca an6 Z Z ((amB _ _ _ f.wide _ (by omega)).mono ?_);rintro e qE ⟨e_,gD,rfl,W',Xa,iJ,ady,kI⟩;refine cK ?_;have:=kI.size;have lX:=J iQ kI;have nP:=W'.lt;have D8:=Xa.lt;refine nl<|Rd.br<|Rd.bV<| ?_;have n5:=n5.later kI;refine Rd.bM (enc:=(λ k:Fin f.high.toNat=> .slice (ez A (k.1 * f.wide.toNat+f.wide.toNat) (k.1 * f.wide.toNat) 1) f.wide.toNat f.wide.toNat)) Z an7 (amC f.high.toNat f.wide.toNat f.places.length c e_ gD A _ (by omega) hlen (bJ.1) bJ.2.1 _ W' Xa) (by omega) (by omega) (Ext.bM _) (by decide) Z Z (λ pre W=>∃ ct:Option Addr,∃ co:Nat,aO W zr [.slice ct ((txt f pre).length) co] 30 (0,0)∧Al.aL 5 1 W qE.heap.size (Φ.ab ct) ct co (txt f pre)∧Mod [zr] qE W) (by rintro aKD aDF aDG aDC ⟨ct,co,y5,bU,aBq⟩ Of I6;exact ⟨ct,co,y5.mod Of (λ I=>(I6 _ I).2 _ _ _ y5),bU.mod Of (λ q I hs=>by obtain ⟨_,_,_,hc⟩:=bU.Q9 q I;exact (I6 q hs).2 _ _ _ hc),aBq.md Of (λ q I=> .inr (I6 q I).1)⟩) ⟨none,0,n5,Φ.aL.nil _,Mod.bM _ _⟩ ?_ ?_
  ·intro aHk pre x Vq Sp arL;obtain ⟨ct,co,y5,bU,VV⟩:=Sp;have wg:∀ q∈ [zr],w.heap.size≤q:=λ q I=>by rw [aMu.1 I];omega
   have Br:u' qE.heap.size Vq Vq:=u'.bM _ _;have:=VV.size;have aJQ:=y5.lt;have agt:=bY bU.lt;have auV:=dJ bU.lt;have hx:=x.2;have JC:x.1 * f.wide.toNat+f.wide.toNat≤f.high.toNat * f.wide.toNat:=by rw [← aNU];exact aNh _ hx
   have abS:=Vd f pre;have asm:pre.length<f.high.toNat:=arL;have abK:=azF f pre asm uK qJ sS sT;refine Rd.bV<|Rd.aI<|Rd.aI<|Rd.rg<|vm Z<|aa (dC underlying46 Z)<|vm Z<|nl<|Rd.br<|Rd.bV<| ?_;refine Rd.gh (λ cL cw aV=>∃ j:Nat,∃ Hl:Option Addr,∃ Q':Nat,cw= [(2, .string (aD [])),(3,γ 0),(5, .pointer (a_ zr)),(6, .slice (ez A (x.1 * f.wide.toNat+f.wide.toNat) (x.1 * f.wide.toNat) 1) f.wide.toNat f.wide.toNat),(20, .slice (ez A (x.1 * f.wide.toNat+f.wide.toNat) (x.1 * f.wide.toNat) 1) f.wide.toNat f.wide.toNat),(21,γ (f.wide.toNat:Int)),(22,γ (j:Int))]∧cL=f.wide.toNat - j∧Mod [zr] qE aV∧u' qE.heap.size Vq aV∧aO aV zr [.slice Hl (((txt f pre++sJ f x.1 j)).length) Q'] 30 (0,0)∧Al.aL 5 1 aV qE.heap.size (Φ.ab Hl) Hl Q' (txt f pre++sJ f x.1 j)∧(j≤f.wide.toNat)∧(∀ q∈Φ.ab Hl,q=zr→False)) _ _ ⟨0,ct,co,Z,Z,VV,Br,(by rw [afA,aM4];exact y5),(by rw [afA,aM4];exact bU),by omega,(λ q I af=>by (have:=auV q I;omega))⟩ (eV Z Z Z) ?_;rintro J0 aiP Ei ⟨j,Hl,Q',rfl,rfl,lZ,Br,l2,s6,aw,xU⟩;have:=lZ.size;have aff:=l2.lt;have aKU:=bY s6.lt;have aIn:=dJ s6.lt;have asq:=afB f x.1 j;have abP:((f.places.drop (x.1 * f.wide.toNat)).take (x.1 * f.wide.toNat+f.wide.toNat - x.1 * f.wide.toNat)).length=f.wide.toNat:=by rw [aME,aM9];omega
   refine Rd.aI<|Rd.rg<|fI Z Z<|nl<|Rd.br<|Rd.aI<| ?_;refine Rd.fM Z (λ SI=> ?_) (λ SI=> ?_)
   ·have jq:=aw5 (f:=f) (j:=j) K6 (x:=x.1) (n:=f.wide.toNat) (by omega) (by omega) (by omega);refine Rd.gb<|Rd.br<|Rd.aI<|Rd.bV<|Rd.aI<|Rd.rg<|aa (bX j underlying46 cr Z Z (((bJ.keep (Ext.mod lX lZ wg)).chunk (x.1 * f.wide.toNat) (x.1 * f.wide.toNat+f.wide.toNat) (by omega) (by omega)).bx (a1 j (by rw [aME,aM9];omega))) Z (by omega))<|aa (aA Z (Φ.aQ.dm dy (((bJ.keep (Ext.mod lX lZ wg)).chunk (x.1 * f.wide.toNat) (x.1 * f.wide.toNat+f.wide.toNat) (by omega) (by omega)).ck (a1 j (by rw [aME,aM9];omega))) (cl (l:=(f.places.drop (x.1 * f.wide.toNat)).take (x.1 * f.wide.toNat+f.wide.toNat - x.1 * f.wide.toNat)) (u:=0) (by rw [aME,aM9];omega)) Z aZ))<|va Z<|nl<|Rd.br<| ?_;refine Rd.rd [(0,0),(3,2),(4,3),(5,3)] [0,1,2,3,4,5] (by kernel_rfl) (by kernel_rfl) ?_;refine cO Z Z l2 Ru Z<|bn Z Z<|ax Z (λ _=>Kp underlying9 Z Z (aeZ jq).1 (aeZ jq).2)<|fS Z Z Z λ G1 fU Q hK=>b9 (e:= 5) (cs:= [.int .u8 (((GL (((f.places.drop (x.1 * f.wide.toNat)).take (x.1 * f.wide.toNat+f.wide.toNat - x.1 * f.wide.toNat)).getD j 0)).toNat:Int))]) Z (λ _=>by kernel_rfl) Z λ xc akJ jC atL EN=>hK _ _ ⟨J fU jC, ?_⟩;have:=fU.size;have rR:=lZ.trans (Mod.aP fU);have:=jC.size;have jT:=rR.trans (Mod.aP jC);have axz:=EN.lt;have s6:=s6.later (J fU jC);have awU:=s6;refine dA Z Z Z λ xd iq Q hK=>ap Xg Φ.cZ (s6.later iq) ((aO.fu (R:=Al) (by_:=1) (q:=(GL (((f.places.drop (x.1 * f.wide.toNat)).take (x.1 * f.wide.toNat+f.wide.toNat - x.1 * f.wide.toNat)).getD j 0))) EN ⟨Z,trivial⟩ (by decide)).keep iq) Z Z (by simp only [aMB,aMw,aMz];omega) (by simp only [aMB,aMw,aMz];omega) (by have:=iq.size;omega) Z λ Pk Wx Yl BQ LU aal aI2=>hK _ _ ?_;have:=iq.size;have nk:=jT.trans (Mod.aP iq);have:=BQ.size;have sW:=nk.md BQ (λ q I=> .inr ((λ q I=>aMR (by omega) ((s6.later iq).lt q I).1) q I));have Vf:=bY LU.lt;have:=BQ.size;have l2:=(l2.later (J fU (J jC iq))).mod BQ (λ I=>xU _ I rfl);have awV:=l2;refine dA Z Z Z λ agQ qI Q hK=>st (new:= [.slice Wx ((txt f pre++sJ f x.1 j++ [(GL (((f.places.drop (x.1 * f.wide.toNat)).take (x.1 * f.wide.toNat+f.wide.toNat - x.1 * f.wide.toNat)).getD j 0))]).length) Yl]) Z Z (l2.later qI) Z ZC Z Z Z λ KO lK l2=>hK _ _ ?_;have:=qI.size;have K_:=sW.trans (Mod.aP qI);have:=lK.size;have uL:=K_.md lK (λ q I=> .inl I);refine fn λ agS mA=> ?_;have:=mA.size;have K':=uL.trans (Mod.aP mA);refine Rd.cm<|Rd.br<|Rd.rg<|fi Z Z<|vm Z<|nl<| ?_;have ee:=ud (lK) mA;have Br:=(((Br.later (J fU (J jC iq))).mod BQ (λ q I=>(awU.later iq).Q9 q I)).later qI).mod ee (λ q I=>by rw [aMu.1 I];exact ⟨_,_,_,(awV.later qI)⟩);have l2:=l2.later mA;have LU:=(LU.later qI).mod ee (cY λ q I af=>aMS (aal q I) (λ adl=>by (exact xU q adl af)) (λ adl=>by omega));exact Rd.lM _ _ ⟨j+1,Wx,Yl,Z,Z,K',Br,(by rw [afC (by omega),← aM6];exact l2),(by rw [afC (by omega),← aM6];exact LU),by omega,(gp aal xU)⟩ (by omega) (eV Z Z Z)
   ·refine Rd.er<|Rd.ep<|eY<|Rd.eo<|Rd.br<|Rd.rg<|bA Z l2 Ru Z<|b9 (e:= 5) (cs:= [.int .u8 10]) Z (λ _=>by kernel_rfl) Z λ Pq X0 kK adI uV=> ?_;have:=kK.size;have y1:=lZ.trans (Mod.aP kK);have afk:=uV.lt;have s6:=s6.later kK;have awW:=s6;refine ap Xg Φ.cZ s6 (aO.fu (R:=Al) (by_:=1) (q:=(10:UInt8)) uV ⟨Z,trivial⟩ (by decide)) Z Z (by simp only [aMB,aMw,aMz];omega) (by simp only [aMB,aMw,aMz];omega) (by omega) Z λ Ep WC Ym gP H2 apT aJb=> ?_;have:=gP.size;have jV:=y1.md gP (λ q I=> .inr ((λ q I=>aMR (by omega) (s6.lt q I).1) q I));have aKW:=bY H2.lt;have:=gP.size;have l2:=(l2.later kK).mod gP (λ I=>xU _ I rfl);have awX:=l2;refine st (new:= [.slice WC ((txt f pre++sJ f x.1 j++ [(10:UInt8)]).length) Ym]) Z Z l2 Z ZC Z Z Z λ agX tS l2=> ?_;have:=tS.size;have Hj:=jV.md tS (λ q I=> .inl I);refine nl<|Rd.cm<| ?_;have Br:=((Br.later kK).mod gP (λ q I=>awW.Q9 q I)).mod tS (λ q I=>by rw [aMu.1 I];exact ⟨_,_,_,awX⟩);have H2:=H2.mod tS (cY λ q I af=>aMS (apT q I) (λ JO=>by (exact xU q JO af)) (λ JO=>by omega));have arB:j=f.wide.toNat:=by omega
    rw [arB] at l2 H2;exact λ _ _=>⟨Br,Mod.ats VV Hj ⟨by omega,by omega⟩ aY aY,⟨WC,Ym,(by rw [agk];exact l2),(by rw [agk];exact H2),Hj⟩⟩
  ·intro D aBf aK2 aFx I6 Sp aaC;obtain ⟨ct,co,y5,bU,ahf⟩:=Sp;have Sw:aBf=List.finRange f.high.toNat:=I6;subst Sw;have:=ahf.size;have aBo:=Ext.mod lX ahf (λ q I=>by rw [aMu.1 I];omega);refine qU.cm<|qU.br<|qU.aI<|qU.rg<|qU.ig (aA Z (y5.one Ru Z)) Z<|qU.ig (amF underlying30 underlying5 underlying9 bU.has Z) Z<|qU.ig (eQ Z) Z<|qU.ig (eQ Z) Z<|qU.nl<|qU.br<|qU.rt<|qU.dR aaC (.tmp Z (.tmp Z .nil))<| ?_;exact ⟨by rw [aA0 hC,hC];rfl,Ext.mod aBo aaC.un (λ q I=>by rw [aMu.1 I];omega)⟩
end
section
variable {s:ByteArray} {k:Nat}
theorem aiS:dL prog bz 46 3 8:=dL.jw (z:=γ 0) (k:=1) underlying46 wj rfl rfl (by decide) (λ j u h=>Ak j u h)
theorem ab0 (s:ByteArray) (b:UInt8) (w:World):Calls prog 61 #[.string s, .int .u8 (b.toNat:Int)] w λ e w'=>e= .returned (γ (Lib.indexByte s.data.toList b))∧Ext w w' :=
 (strings_IndexByte s (b.toNat:Int) w).mono λ e w' h=>⟨by rw [h.1];simp,by rw [h.2];exact Ext.bM _⟩
theorem amD (s:ByteArray) (b:UInt8) (w:World):Calls prog 28 #[.string s, .string (aD [b])] w λ e w'=>e= .returned (γ ((Lib.countByte s.data.toList b:Nat):Int))∧Ext w w' :=
 (strings_Count_one s b w).mono λ e w' h=>⟨by rw [h.1],by rw [h.2];exact Ext.bM _⟩
theorem O3 (h:k<s.size):s.data.toList[(k:Int).toNat]? =some (s.data.toList.getD k 0):=by
 rw [aNE];exact cl (by rw [aNN];exact h)
theorem ab1:∀ (l:List UInt8) (b:UInt8), -1≤Lib.indexByte l b∧Lib.indexByte l b<(l.length:Int)
 | [],b=>⟨aNS _,by show (-1:Int)<0;omega⟩
 | x::l,b=>by
  have:=ab1 l b;unfold Lib.indexByte;rw [aMw];split
  ·omega
  ·split<;>omega
def na (l:List UInt8):List Int:=(l.map λ b=>Lib.indexByte ([46,35,116,111]:List UInt8) b).filter λ n=>decide (0≤n)
theorem axW (l:List UInt8):(na l).length≤l.length:=by unfold na;exact aMR (aN1 _ _) (by rw [aNf];exact aMO _)
theorem aft {l:List UInt8} (aj:k<l.length):na (l.take (k+1))=na (l.take k)++ [Lib.indexByte ([46,35,116,111]:List UInt8) (l.getD k 0)].filter λ n=>decide (0≤n):=by
 rw [aMW aj];unfold na;rw [aM0,aNv,aMv,aMy aj];rfl
theorem ax0 (aj:k<s.size) (h:0≤Lib.indexByte ([46,35,116,111]:List UInt8) (s.data.toList.getD k 0)):na (s.data.toList.take (k+1))=na (s.data.toList.take k)++ [Lib.indexByte ([46,35,116,111]:List UInt8) (s.data.toList.getD k 0)]:=by
 rw [aft (by rw [aNN];exact aj),aNB,aMI (aMV h)];rfl
theorem axY (aj:k<s.size) (h:¬ 0≤Lib.indexByte ([46,35,116,111]:List UInt8) (s.data.toList.getD k 0)):na (s.data.toList.take (k+1))=na (s.data.toList.take k):=by
 rw [aft (by rw [aNN];exact aj),aNB,aMA (by rw [aMY h];decide)];simp
def pq (s:ByteArray):au:=⟨Lib.indexByte s.data.toList 10,((Lib.countByte s.data.toList 10:Nat):Int),na s.data.toList⟩
def po (s:ByteArray):Int:=if ((pq s).a7 != 0 || !decide (ya (pq s)=s))=true then 4 else 0
def pw (s:ByteArray):au:=if ((pq s).a7 != 0 || !decide (ya (pq s)=s))=true then ⟨0,0, []⟩ else pq s
theorem afv (h:((pq s).a7 != 0 || !decide (ya (pq s)=s))=false):pw s=pq s∧po s=0:=by unfold pw po;rw [h];exact ⟨Z,Z⟩
theorem axZ {w w':World} (h:((pq s).a7 != 0 || !decide (ya (pq s)=s))=true) (x:Ext w w'):∃ A c,(Ending.returned (.tuple #[.agg #[γ 0,γ 0, .slice none 0 0],γ 4])= .returned (.tuple #[.agg #[γ (pw s).wide,γ (pw s).high, .slice A (pw s).places.length c],γ (po s)]))∧bz.aL 3 8 w' w.heap.size (Φ.ab A) A c (pw s).places∧Ext w w':=by
 have aR:pw s=⟨0,0, []⟩:=by unfold pw;rw [aMI h]
 have a6:po s=4:=by unfold po;rw [aMI h]
 rw [aR,a6];exact ⟨none,0,Z,Φ.aL.nil _,x⟩
theorem axX (s:ByteArray) (w:World) (hs:s.size≤17592186044415):
  Calls prog 42 #[.string s] w (λ e w'=>∃ A c,e= .returned (.tuple #[.agg #[γ (pw s).wide,γ (pw s).high, .slice A (pw s).places.length c],γ (po s)])∧bz.aL 3 8 w' w.heap.size (Φ.ab A) A c (pw s).places∧Ext w w'):=by
 refine cx (n:=46) func42 Z Z Z ?_;refine aG<|dj Rv Z λ dn bw bm fO ag=> ?_;have ja:=ag.lt;refine aU Z<|aN Z<|de ZD Z (ab0 s (10:UInt8) _) λ fP d_=> ?_;have:=d_.size;have b7:=J bm d_;refine vm Z<|de an9 Z (amD s 10 _) λ w_ gK=> ?_;have:=gK.size;have ku:=J b7 gK;refine aa (v:= .agg #[γ (Lib.indexByte s.data.toList (10:UInt8)),γ (((Lib.countByte s.data.toList 10:Nat):Int)), .slice none 0 0]) (ht Z)<|dj Rv Z λ yP pU gB atF AU=> ?_;have mC:=J ku gB;refine c6 Z Z AU Z gy Z Z λ rL mh AU=> ?_;have hU:=Ext.mod mC mh bE;refine aJ<|aI<|aN Z<|aa (DG underlying9 Z (by omega))<|vm Z<|aJ<|bV<| ?_;have ag:=(ag.later (J d_ (J gK gB))).mod mh aY;refine gh (λ cL cw aV=>∃ k:Nat,∃ ct:Option Addr,∃ co:Nat,cw= [(0, .string s),(2, .pointer (a_ bw)),(3,γ 0),(4, .pointer (a_ pU)),(15,γ (((s).size:Int))),(16,γ (k:Int))]∧cL=s.size - k∧Ext w aV∧aO aV bw [γ 0,γ 0, .slice none 0 0] 48 (0,0)∧aO aV pU [γ (Lib.indexByte s.data.toList (10:UInt8)),γ (((Lib.countByte s.data.toList 10:Nat):Int)), .slice ct ((na (s.data.toList.take k)).length) co] 48 (0,0)∧bz.aL 3 8 aV w.heap.size (Φ.ab ct) ct co (na (s.data.toList.take k))∧(k≤s.size)∧(∀ q∈Φ.ab ct,q=bw→False)∧(∀ q∈Φ.ab ct,q=pU→False)) _ _ ⟨0,none,0,Z,Z,hU,ag,AU,(Φ.aL.nil _),by omega,(λ q I af=>by (simp [Φ.ab] at I)),(λ q I af=>by (simp [Φ.ab] at I))⟩ (eV Z Z Z) ?_;rintro J0 aiP Ei ⟨k,ct,co,rfl,rfl,lZ,ag,hH,bU,aj,Fg,xU⟩;have aff:=ag.lt;have axw:=hH.lt;have asq:=axW (s.data.toList.take k);have abS:(s.data.toList.take k).length≤k:=aOC _ _;refine aG<|fI Z Z<|aJ<|aI<| ?_;refine fM Z (λ SI=> ?_) (λ SI=> ?_)
 ·have k8:=ab1 ([46,35,116,111]:List UInt8) (s.data.toList.getD k 0);refine bF<|aI<|bV<|aN Z<|aU Z<|aN Z<|vm Z<|aa (Kp underlying9 Z Z (by omega) (O3 (s:=s) (by omega)))<|de ZD Z (ab0 (aD [46,35,116,111]) (s.data.toList.getD k 0) _) λ G1 fU=> ?_;have:=fU.size;have rR:=J lZ fU;refine aU Z<|aN Z<|aa (k7 Z Z)<|aJ<| ?_;refine CW Z (λ yg=> ?_) (λ yg=> ?_)
  ·refine rg<|aa (ar tu Z)<| ?_;have hH:=hH.later fU;refine bA Z hH fC Z<|vm Z<|b9 (e:= 3) (cs:= [γ (Lib.indexByte ([46,35,116,111]:List UInt8) (s.data.toList.getD k 0))]) Z (λ _=>by kernel_rfl) Z λ sN aEa sR aHR Hn=> ?_;have k1:=J rR sR;have aJ8:=Hn.lt;have bU:=bU.later (J fU sR);refine ap aiS Φ.cZ bU (aO.fu (R:=bz) (by_:=8) (q:=Lib.indexByte ([46,35,116,111]:List UInt8) (s.data.toList.getD k 0)) Hn ⟨Z,cH.2 (by have:=k8.2;simp only [aMw,aMz] at this;omega)⟩ (by decide)) Z Z (by simp only [aMw,aMz];omega) (by simp only [aMw,aMz];omega) k1.size Z λ Pj ah9 alX rv QK R_ aI1=> ?_;have AL:=Ext.mod k1 rv (λ q I=>(bU.lt q I).1);refine aa (ar tu Z)<| ?_;have hH:=(hH.later sR).mod rv (λ I=>xU _ I rfl);refine fH Z Z hH Z x_ Z Z λ VC qq hH=> ?_;have AM:=Ext.mod AL qq bE;refine nl<|cm<|eR Z Z Z<| ?_;have aR:na (s.data.toList.take (k+1))=na (s.data.toList.take k)++ [Lib.indexByte ([46,35,116,111]:List UInt8) (s.data.toList.getD k 0)]:=ax0 (by omega) yg;have ag:=((ag.later (J fU sR)).mod rv (λ I=>Fg _ I rfl)).mod qq aY;have QK:=QK.mod qq (cY λ q I af=>aMS (R_ q I) (λ adj=>by (exact xU q adj af)) (λ adj=>by omega));exact fh ⟨k+1,ah9,alX,Z,Z,AM,ag,(by rw [aR];exact hH),(by rw [aR];exact QK),by omega,(gp R_ Fg),(gp R_ xU)⟩
  ·refine gb<|cm<|eR Z Z Z<| ?_;have aR:na (s.data.toList.take (k+1))=na (s.data.toList.take k):=axY (by omega) yg;have ag:=ag.later fU;have hH:=hH.later fU;have bU:=bU.later fU;exact fh ⟨k+1,ct,co,Z,Z,rR,ag,(by rw [aR];exact hH),(by rw [aR];exact bU),by omega,Fg,xU⟩
 ·refine er<|ep<|eY<|eo<|br<|aI<|aG<|aa (aA Z (hH.all gZ gy))<|de aoa Z (aAY (⟨Lib.indexByte s.data.toList (10:UInt8),((Lib.countByte s.data.toList 10:Nat):Int),na (s.data.toList.take k)⟩:au) _ _ _ bU.has) λ Pm xo=> ?_;have sY:=J lZ xo;refine vm Z<|b2 Z Z<|b2 Z Z<|va Z<|aU Z<|aN Z<|gJ Z Z<|vm Z<|gw Z Z<|gw Z Z<|cb Z (λ hc=>Ie underlying9 (gt hc Z) (gt hc Z))<|aa (gq Z Z Z Z)<|aJ<| ?_;refine c_ Z (λ SS=> ?_) (λ SS=> ?_)
  ·have mL:(⟨Lib.indexByte s.data.toList (10:UInt8),((Lib.countByte s.data.toList 10:Nat):Int),na (s.data.toList.take k)⟩:au)=pq s:=by unfold pq;rw [aMU (by rw [aNN];show s.size≤k;omega)]
   refine aG<|aa (v:= .agg #[γ 0,γ 0, .slice none 0 0]) (ht Z)<| ?_;have ag:=ag.later xo;refine c6 Z Z ag Z gy Z Z λ agS yB ag=> ?_;have K':=Ext.mod sY yB bE;refine bL Z<|cW<|dR (.cell Z (ag.all gZ gy) (.tmp Z .nil))<| ?_;exact axZ (by rw [← mL];exact SS) K'
  ·have mL:(⟨Lib.indexByte s.data.toList (10:UInt8),((Lib.countByte s.data.toList 10:Nat):Int),na (s.data.toList.take k)⟩:au)=pq s:=by unfold pq;rw [aMU (by rw [aNN];show s.size≤k;omega)]
   refine bF<|aG<| ?_;have hH:=hH.later xo;refine aa (aA Z (hH.all gZ gy))<| ?_;have ag:=ag.later xo;refine c6 Z Z ag Z gy Z Z λ VE BR ag=> ?_;have La:=Ext.mod sY BR bE;refine bL Z<|dR (.cell Z (ag.all gZ gy) (.tmp Z .nil))<| ?_;have bU:=(bU.later xo).mod BR (cY Fg);obtain ⟨r1,r2⟩:=afv (s:=s) (by rw [← mL];exact SS);rw [r1,r2];exact ⟨ct,co,by rw [← mL];rfl,by rw [← mL];exact bU,La⟩
end
def aKE:au:=⟨3,2, [0,1,0,0,0,0]⟩
section
variable {f:au} {a b c n:ai} {r:Int}
theorem ayH (h:rI f a b=0):f.cG a=0∧f.cG b=0:=by
 unfold rI at h;split at h
 ·contradiction
 ·rename_i κ;exact ⟨by simpa using κ,h⟩
theorem ayG (h:f.cG a=0) (τ:f.cG b=0):rI f a b=0:=by unfold rI;rw [aMA (by simpa using h)];exact τ
theorem ayI (h:rI f a b=0):B2 f a b=Kn f a b:=by unfold B2;rw [aMA (by simpa using h)];rfl
theorem ayu (h:qA f c r=0):f.cG c=0∧0≤r∧r≤12:=by
 unfold qA at h;split at h
 ·contradiction
 ·rename_i κ
  split at h
  ·exact nomatch h
  ·exact ⟨by simpa using κ,by omega⟩
theorem ayC (aB:f.cG c=0) (hr:0≤r∧r≤12):n∈gz f c r↔(max 0 (c.x - r)≤n.x∧n.x≤min (f.wide - 1) (c.x+r)∧max 0 (c.y - r)≤n.y∧n.y≤min (f.high - 1) (c.y+r))∧Kn f c n=true:=by
 rw [(afM aB hr).2];unfold oM nb;simp only [List.mem_flatMap,aM8,aNO,aMT];constructor
 ·rintro ⟨i,ak,⟨j,aw,rfl⟩,af⟩;unfold wV at ak;unfold sK at aw;refine ⟨?_,af⟩;unfold seenAt;simp only;omega
 ·rintro ⟨⟨cV,a2,a3,a4⟩,af⟩;refine ⟨(n.y - max 0 (c.y - r)).toNat,by unfold wV;omega,⟨(n.x - max 0 (c.x - r)).toNat,by unfold sK;omega, ?_⟩,af⟩;obtain ⟨x,y⟩:=n;unfold seenAt;simp only at *
  congr 1<;>omega
theorem akC (hc:f.a7=0) (h:0≤n.x∧n.x≤f.wide - 1∧0≤n.y∧n.y≤f.high - 1):f.cG n=0:=by
 refine (au.k6 hc ?_).1;unfold au.dU;rw [ma h.1 h.2.1,ma h.2.2.1 h.2.2.2];rfl
theorem ayF (h:qA f c r=0) (hn:n∈gz f c r):rI f c n=0∧B2 f c n=true:=by
 obtain ⟨aB,hr⟩:=ayu h;obtain ⟨a,b⟩:=(ayC aB hr).1 hn;have e:=ayG aB (akC (QT aB).1 (n:=n) (by omega));exact ⟨e,by rw [ayI e];exact b⟩
def au.aJv (f:au) (i:Nat):au:= {f with places:=f.places.set i 0}
end
def aFa:au:=⟨2,2, [0,1,2,3]⟩
section
variable {f:au} {k:Nat} {c n:ai} {r p:Int}
theorem ajs:(prog.info? 4).map (λ i=>(i.zero,i.size,i.bytes))=some (some (.bool false),1,1):=by kernel_rfl
def marks (f:au) (out:List Bool) (l:List ai):List Bool:=l.foldl (λ o c=>o.set (c.y * f.wide+c.x).toNat true) out
theorem Ag (f:au):∀ (l:List ai) (out:List Bool),(marks f out l).length=out.length
 | [],_=>rfl
 | c::l,out=>by show (marks f (out.set _ true) l).length=_;rw [Ag f l,aMM]
theorem avq {out:List Bool} {l:List ai} (h:k<l.length):marks f out (l.take (k+1))=(marks f out (l.take k)).set ((l.getD k default).y * f.wide+(l.getD k default).x).toNat true:=by
 unfold marks;rw [Ao (d:=default) h,aP0];rfl
theorem ayB (hn:n∈gz f c r):f.cG n=0:=by
 by_cases h:qA f c r=0
 ·exact (ayH (ayF h hn).1).2
 ·unfold gz at hn;rw [aMI h] at hn;simp at hn
theorem ayA (hn:n∈gz f c r):0≤n.x∧n.x<f.wide∧0≤n.y∧n.y<f.high∧0≤n.y * f.wide∧n.y * f.wide≤1600∧n.y * f.wide+n.x<(f.places.length:Int)∧f.wide≤40:=by
 have aB:=ayB hn;obtain ⟨hc,κ,τ,aq,bb⟩:=QT aB;obtain ⟨uK,qJ,sS,sT,Ha,K6⟩:=au.g_ hc;have i:=au.idx hc (H' hc aB);have m1:0≤n.y * f.wide:=aO7 aq (by omega);have m2:n.y * f.wide≤40 * 40:=aOy (by omega) qJ (by omega) (by omega);omega
def DJ (W:ae) (p:Int) (o:List Bool) (t:a8):List Bool:=if t.owner=p then marks W.field o (gz W.field t.spot 5) else o
def py (W:ae) (p:Int) (k:Nat):List Bool:=(W.ah.take k).foldl (DJ W p) (marks W.field (List.replicate W.field.places.length false) (gz W.field (W.bj.getD p.toNat default) 3))
theorem au0 (W:ae) (p:Int) (o:List Bool) (t:a8):(DJ W p o t).length=o.length:=by unfold DJ;split<;>simp [Ag]
theorem Z8 (W:ae) (p:Int):∀ (l:List a8) (o:List Bool),(l.foldl (DJ W p) o).length=o.length
 | [],_=>rfl
 | t::l,o=>by rw [List.foldl_cons,Z8 W p l,au0]
theorem GJ (W:ae) (p:Int) (k:Nat):(py W p k).length=W.field.places.length:=by unfold py;rw [Z8,Ag,aM2]
theorem afH {W:ae} (h:k<W.ah.length):py W p (k+1)=DJ W p (py W p k) (W.ah.getD k default):=by
 unfold py;rw [Ao (d:=default) h,aP0];rfl
theorem ayw {W:ae} (h:k<W.ah.length) (κ:(W.ah.getD k default).owner=p):py W p (k+1)=marks W.field (py W p k) (gz W.field (W.ah.getD k default).spot 5):=by
 rw [afH h];unfold DJ;rw [aMI κ]
theorem ayv {W:ae} (h:k<W.ah.length) (κ:¬ (W.ah.getD k default).owner=p):py W p (k+1)=py W p k:=by
 rw [afH h];unfold DJ;rw [aMA κ]
def kn (W:ae) (p:Int):Int:=if W.a7≠0 then W.a7 else if p<0∨(W.bj.length:Int)≤p then 7 else 0
def iL (W:ae) (p:Int):List Bool:=if kn W p≠0 then [] else py W p W.ah.length
theorem avI {W:ae} (h:¬ W.a7=0):kn W p=W.a7∧iL W p= []:=by
 have e:kn W p=W.a7:=by unfold kn;rw [aMI h]
 exact ⟨e,by unfold iL;rw [e,aMI h]⟩
theorem avJ {W:ae} (h:W.a7=0) (hp:p<0∨(W.bj.length:Int)≤p):kn W p=7∧iL W p= []:=by
 have e:kn W p=7:=by unfold kn;rw [aMA (by simpa using h),aMI hp]
 exact ⟨e,by unfold iL;rw [e];rfl⟩
theorem avK {W:ae} (h:W.a7=0) (hp:0≤p∧p<(W.bj.length:Int)):kn W p=0∧iL W p=py W p W.ah.length:=by
 have e:kn W p=0:=by unfold kn;rw [aMA (by simpa using h),aMA (by omega)]
 exact ⟨e,by unfold iL;rw [e];rfl⟩
theorem aec (a:ae.cU) (W:ae) (x:ai) (r:Int) (xO E6:Nat) (A:Option Addr) (c:Nat) (out:List Bool) (w0:World) (w:World) (b8:ae.Has w0 a W) (jL:Ext w0 w) (kb:aO w xO (ae.cells a W) 52 (0,0)) (bc:aO w E6 [.slice A out.length c] 112 (0,0)) (mO:nQ.aL 4 1 w w0.heap.size (Φ.ab A) A c out) (d0:∀ q∈Φ.ab A,q=xO→False) (amG:∀ q∈Φ.ab A,q=E6→False) (hlen:out.length=W.field.places.length):
  Calls prog 95 #[.agg #[γ x.x,γ x.y],γ r, .pointer (a_ xO), .pointer (a_ E6)] w (λ e w'=>e= .returned (.tuple #[])∧nQ.aL 4 1 w' w0.heap.size (Φ.ab A) A c (marks W.field out (gz W.field x r))∧Mod (Φ.ab A) w w'):=by
 have GX:=bY mO.lt;have atA:∀ q∈Φ.ab A,w0.heap.size≤q:=λ q I=>(mO.lt q I).1;refine cx (n:=36) func95 Z Z Z ?_;refine eW Z Z λ dn bw bm fO ag=> ?_;have dK:=(Mod.bM (Φ.ab A) w).trans (Mod.aP bm);have ja:=ag.lt;refine aJ<|aG<|aa (ar pZ Z)<| ?_;have kb:=kb.later bm;refine aa (aA Z (kb.par [γ W.field.wide,γ W.field.high, .slice a.P W.field.places.length a.p] gZ gy Z))<|aa (aA Z (ag.all b0 bs))<|vm Z<|ca aob Z Z ((ayz W.field x r _ _ _ (b8.P.keep (Ext.mod jL dK atA))).mono ?_);rintro e w_ ⟨y4,Il,rfl,vn,gK⟩;refine cK ?_;have ku:=dK.trans (Mod.aP gK);have azW:=bY vn.lt;have auK:=dJ vn.lt;refine vm Z<|b2 Z Z<|b2 Z Z<|va Z<|aU Z<|aN Z<|aa (dC underlying49 Z)<|vm Z<|aJ<|bV<| ?_;have ee:=(J bm gK);have mO:=mO.later ee;have kb:=kb.later gK;have bc:=bc.later ee;refine gh (λ cL cw aV=>∃ k:Nat,cw= [(2, .pointer (a_ xO)),(3, .pointer (a_ E6)),(18, .slice y4 ((gz W.field x r).length) Il),(19,γ ((((gz W.field x r).length:Nat):Int))),(20,γ (k:Int))]∧cL=(gz W.field x r).length - k∧Mod (Φ.ab A) w aV∧aO aV xO (ae.cells a W) 52 (0,0)∧aO aV E6 [.slice A out.length c] 112 (0,0)∧ai.rep.aL 98 16 aV dn.heap.size (Φ.ab y4) y4 Il (gz W.field x r)∧nQ.aL 4 1 aV w0.heap.size (Φ.ab A) A c (marks W.field out ((gz W.field x r).take k))∧(k≤(gz W.field x r).length)∧(∀ q∈Φ.ab A,q=xO→False)∧(∀ q∈Φ.ab A,q=E6→False)∧(∀ q∈Φ.ab A,q∈Φ.ab y4→False)) _ _ ⟨0,Z,Z,ku,kb,bc,vn,mO,by omega,d0,amG,(λ q I af=>by (have:=auK q af;(have:=GX q I;omega)))⟩ (eV Z Z Z) ?_;rintro Gv aiO yQ ⟨k,rfl,rfl,iu,kb,bc,vn,dG,aj,Yz,Fe,Ff⟩;have:=iu.size;have yF:=kb.lt;have axv:=bc.lt;have GY:=bY vn.lt;have agt:=bY dG.lt;have Gc:=Ag W.field ((gz W.field x r).take k) out;have yo:=(vn).has.km;refine aG<|fI Z Z<|aJ<|aI<| ?_;refine fM Z (λ zS=> ?_) (λ zS=> ?_)
 ·obtain ⟨BU,rB,pj,qv,aIw,aIx,aIy,aIz⟩:=ayA (mU (d:=default) (show k<(gz W.field x r).length by omega));refine bF<|aI<|bV<|aG<|aa (bX k underlying49 bs Z Z (vn.has.bx (a1 k)) Z (by omega))<|aa (aA Z (Φ.aQ.jG vP (vn.has.ck (a1 k)) (cl (l:=gz W.field x r) (u:=default) (by omega)) b0 bs))<|dj sk Z λ yS XW fx adC xB=> ?_;have lY:=iu.trans (Mod.aP fx);refine c6 Z Z xB Z bs Z Z λ Vx BO xB=> ?_;have AK:=lY.md BO (λ q I=> .inr (by have:=aMu.1 I;omega));refine aJ<|rg<| ?_;have bc:=(bc.later fx).mod BO aY;refine bA Z bc Rw Z<|aa (ar hB Z)<|bA Z xB aZ Z<|aa (ar pZ Z)<|aa (ar C6 Z)<| ?_;have kb:=(kb.later fx).mod BO aY;refine bA Z kb aZ Z<|aa (zx Z Z fN)<|aa (ar hz Z)<|bA Z xB aZ Z<|fi Z Z<| ?_;have dG:=(dG.later fx).mod BO (bk agt);refine aa (bX ((((((gz W.field x r).getD k default).y) * W.field.wide)+(((gz W.field x r).getD k default).x)).toNat) underlying112 C8 Z Z (dG.has.bx (a1 ((((((gz W.field x r).getD k default).y) * W.field.wide)+(((gz W.field x r).getD k default).x)).toNat) (by (try rw [Ag]);omega))) (by omega) (by (try rw [Ag]);omega))<|so (q':=true) (j:=0) (i:=((((((gz W.field x r).getD k default).y) * W.field.wide)+(((gz W.field x r).getD k default).x)).toNat)) dG Φ.cZ (cl (l:=marks W.field out ((gz W.field x r).take k)) (u:=false) (by (try rw [Ag]);omega)) Z Z Z Z (λ _ cs h=>by have wS:=(show _∧_ from h).2;obtain rfl:=Jg h;exact ⟨rfl,trivial⟩) Z Z C8 λ xc ru QG=> ?_;have jT:=AK.md ru (λ q I=> .inl I);refine nl<|cm<|eR Z Z Z<| ?_;have aR:marks W.field out ((gz W.field x r).take (k+1))=(marks W.field out ((gz W.field x r).take k)).set ((((((gz W.field x r).getD k default).y) * W.field.wide)+(((gz W.field x r).getD k default).x)).toNat) true:=avq (by omega);have kb:=kb.mod ru (λ I=>Yz _ I rfl);have bc:=bc.mod ru (λ I=>Fe _ I rfl);have vn:=((vn.later fx).mod BO (bk GY)).mod ru (fX Ff);exact fh ⟨k+1,Z,Z,jT,kb,bc,vn,(by rw [aR];exact QG),by omega,Yz,Fe,Ff⟩
 ·refine er<|ep<|eY<|eo<|ne<|dR .nil<| ?_;have mL:k=(gz W.field x r).length:=by omega
  subst mL;have hF:=dG;rw [aOk] at hF;exact ⟨Z,hF,iu⟩
theorem avR (a:ae.cU) (W:ae) (p:Int) (w:World) (b8:ae.Has w a W):
  Calls prog 73 #[.agg ((ae.cells a W).toArray),γ p] w (λ e w'=>∃ A c,e= .returned (.tuple #[.slice A (iL W p).length c,γ (kn W p)])∧nQ.aL 4 1 w' w.heap.size (Φ.ab A) A c (iL W p)∧Ext w w'):=by
 refine cx (n:=55) func73 Z Z Z ?_;refine eW Z Z λ dn bw bm fO ag=> ?_;have ja:=ag.lt;refine va Z<|aU Z<|aI<|aG<|aa (aA Z (ag.all fb cP))<|de Fy Z (E' a W _ (b8.keep bm)) λ fP d_=> ?_;have:=d_.size;have b7:=J bm d_;refine aU Z<|aN Z<|gJ Z Z<|aJ<| ?_;refine ob Z (λ hC=> ?_) (λ hC=> ?_)
 ·refine aN Z<|va Z<|bL Z<|cW<|hl Z Z Z<| ?_;obtain ⟨aR,a6⟩:=avI (p:=p) hC;exact ⟨none,0,by rw [aR,a6];rfl,by rw [a6];exact Φ.aL.nil _,b7⟩
 ·have av:=Good.tX (by simpa using hC);have BD:=av.dH;have rf:=au.km av.field;refine bF<|aI<|aN Z<|fI Z Z<|vm Z<|gw Z Z<|cb Z (λ hc=>ar sq Z)<| ?_;have ag:=ag.later d_;refine cb Z (λ hc=>aA (gt hc Z) (ag.one x' Z))<|cb Z (λ hc=>dC underlying49 (gt hc Z))<|cb Z (λ hc=>k7 (gt hc Z) (gt hc Z))<|aa (gq Z Z Z Z)<|aJ<| ?_;refine c_ Z (λ hN=> ?_) (λ hN=> ?_)
  ·simp only [cq] at hN;refine aG<|va Z<|bL Z<|cW<|hl Z Z Z<| ?_;obtain ⟨aR,a6⟩:=avJ hC hN;exact ⟨none,0,by rw [aR,a6];rfl,by rw [a6];exact Φ.aL.nil _,b7⟩
  ·simp only [cq] at hN;refine bF<|aG<|aa (ar pZ Z)<|aa (ar tu Z)<|bA Z ag fC Z<|aa (dC underlying46 Z)<|DL (R:=nQ) (by_:=1) (B:=w.heap.size) (c:=W.field.places.length) (zv:=(.bool false)) (q:=false) Φ.q9 underlying112 ajs Z Z (λ j u h=>UF j u h) (λ _=>⟨Z,trivial⟩) Z Z Z (by omega) (by omega) (by omega) λ G0 qY ij atE vp=> ?_;have:=ij.size;have rQ:=J b7 ij;have Ar:=bY vp.lt;have adZ:∀ q∈Φ.ab (a_ qY),qY≤q:=λ q I=>aOn (aMu.1 I).symm;refine dj aoc Z λ rL vy eC atH nr=> ?_;have hU:=J rQ eC;refine st (new:= [.slice (a_ qY) W.field.places.length W.field.places.length]) Z Z nr Z ZB Z Z Z λ Ej DT nr=> ?_;have ni:=Ext.mod hU DT bE;refine aJ<|aG<|aa (J_ Z Z)<|aU Z<|aN Z<|aa (ar sq Z)<| ?_;have ag:=(ag.later (J ij eC)).mod DT aY;refine bA Z ag x' Z<|vm Z<|aa (bX p.toNat underlying49 bs Z Z ((b8.B.keep ni).bx (a1 p.toNat)) (by omega) (by omega))<|aa (aA Z (Φ.aQ.jG vP ((b8.B.keep ni).ck (a1 p.toNat)) (cl (l:=W.bj) (u:=default) (by omega)) b0 bs))<| ?_;have vp:=(vp.later eC).mod DT (bk Ar);have amR:∀ q∈Φ.ab (a_ qY),q=bw→False:=λ q I af=>by (have:=adZ q I;omega)
   have Rc:∀ q∈Φ.ab (a_ qY),q=vy→False:=λ q I af=>by (have:=Ar q I;omega)
   refine Rb ZE Z Z Z ((aec a W (W.bj.getD p.toNat default) 3 bw vy _ _ _ w _ b8 ni ag (by simpa [GJ] using nr) vp amR Rc (by first | exact GJ _ _ _ | simp only [Ag,aM2])).mono ?_);rintro e Ek ⟨rfl,ajV,iK⟩;refine cK ?_;have nj:=Ext.mod ni iK (λ q I=>(vp.lt q I).1);refine aJ<|aI<|aG<|aa (ar kf Z)<| ?_;have Mx:∀ q∈Φ.ab (a_ qY),q=bw→False:=λ q I af=>by (have:=adZ q I;omega)
   have ag:=ag.mod iK (λ I=>Mx _ I rfl);refine bA Z ag l9 Z<|aa (dC underlying50 Z)<|vm Z<|aJ<|bV<| ?_;have MF:∀ q∈Φ.ab (a_ qY),q=vy→False:=λ q I af=>by (have:=Ar q I;omega)
   have nr:=nr.mod iK (λ I=>MF _ I rfl);refine gh (λ cL cw aV=>∃ k:Nat,cw= [(1,γ p),(4, .slice none 0 0),(5,γ 0),(7, .pointer (a_ vy)),(8, .func (.func 95) #[] #[.pointer (a_ bw), .pointer (a_ vy)]),(39, .slice a.T W.ah.length a.t),(40,γ (W.ah.length:Int)),(41,γ (k:Int))]∧cL=W.ah.length - k∧Ext w aV∧aO aV bw (ae.cells a W) 52 (0,0)∧aO aV vy [.slice (a_ qY) W.field.places.length W.field.places.length] 112 (0,0)∧nQ.aL 4 1 aV w.heap.size (Φ.ab (a_ qY)) (a_ qY) W.field.places.length (py W p k)∧(k≤W.ah.length)∧(∀ q∈Φ.ab (a_ qY),q=bw→False)∧(∀ q∈Φ.ab (a_ qY),q=vy→False)) _ _ ⟨0,Z,Z,nj,ag,nr,ajV,by omega,Mx,(λ q I af=>by (have:=Ar q I;omega))⟩ (eV Z Z Z) ?_;rintro Gw aDb Vy ⟨k,rfl,rfl,xq,ag,nr,dG,aj,My,ME⟩;have axA:=ag.lt;have aKa:=nr.lt;have KE:=bY dG.lt;refine aG<|fI Z Z<|aJ<|aI<| ?_;refine fM Z (λ aqx=> ?_) (λ aqx=> ?_)
   ·refine bF<|aI<|bV<|aG<|aa (bX k underlying50 kg Z Z ((b8.T.keep xq).bx (a1 k)) Z (by omega))<|aa (aA Z (Φ.aQ.jG jo ((b8.T.keep xq).ck (a1 k)) (cl (l:=W.ah) (u:=default) (by omega)) zI kg))<|dj Fz Z λ Em vz ir adH Cx=> ?_;have sX:=J xq ir;refine c6 Z Z Cx Z kg Z Z λ um wJ Cx=> ?_;have jU:=Ext.mod sX wJ bE;refine aJ<|aG<|aa (ar Bj Z)<|bA Z Cx aZ Z<|vm Z<|aa (beq Z Z)<|aJ<| ?_;refine lF Z (λ SR=> ?_) (λ SR=> ?_)
    ·refine rg<|vm Z<|aa (ar q6 Z)<|aa (aA Z (Cx.par [γ ((W.ah.getD k default).spot.x),γ ((W.ah.getD k default).spot.y)] b0 bs Z))<| ?_;have ag:=(ag.later ir).mod wJ aY;have nr:=(nr.later ir).mod wJ aY;have dG:=(dG.later ir).mod wJ (bk KE);have Fo:∀ q∈Φ.ab (a_ qY),q=bw→False:=λ q I af=>by (exact My q I af)
     have amU:∀ q∈Φ.ab (a_ qY),q=vy→False:=λ q I af=>by (exact ME q I af)
     refine Rb ZE Z Z Z ((aec a W ((⟨(W.ah.getD k default).spot.x,(W.ah.getD k default).spot.y⟩:ai)) 5 bw vy _ _ _ w _ b8 jU ag (by simpa [GJ] using nr) dG Fo amU (by first | exact GJ _ _ _ | simp only [Ag,aM2])).mono ?_);rintro e KQ ⟨rfl,aj2,oG⟩;refine cK ?_;have xt:=Ext.mod jU oG (λ q I=>(dG.lt q I).1);refine nl<|cm<|eR Z Z Z<| ?_;have aR:py W p (k+1)=marks W.field (py W p k) (gz W.field ((⟨(W.ah.getD k default).spot.x,(W.ah.getD k default).spot.y⟩:ai)) 5):=ayw (by omega) SR;have ag:=ag.mod oG (λ I=>My _ I rfl);have nr:=nr.mod oG (λ I=>ME _ I rfl);exact fh ⟨k+1,Z,Z,xt,ag,nr,(by rw [aR];exact aj2),by omega,My,ME⟩
    ·refine gb<|cm<|eR Z Z Z<| ?_;have aR:py W p (k+1)=py W p k:=ayv (by omega) SR;have ag:=(ag.later ir).mod wJ aY;have nr:=(nr.later ir).mod wJ aY;have dG:=(dG.later ir).mod wJ (bk KE);exact fh ⟨k+1,Z,Z,jU,ag,nr,(by rw [aR];exact dG),by omega,My,ME⟩
   ·refine er<|ep<|eY<|eo<|br<|aG<|bA Z nr Rw Z<|va Z<|bL Z<|hl Z Z Z<| ?_;have mL:k=W.ah.length:=by omega
    subst mL;obtain ⟨aR,a6⟩:=avK hC hN;exact ⟨_,_,by rw [aR,a6,GJ];rfl,by rw [a6];exact dG,xq⟩
end
end Go.Proofs.YthlpmldmhakhaaaGreatDoor
