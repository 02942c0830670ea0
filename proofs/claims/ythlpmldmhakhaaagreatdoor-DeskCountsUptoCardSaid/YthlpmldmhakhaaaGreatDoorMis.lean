import Derived.Test.YthlpmldmhakhaaaGreatDoorSpl
set_option linter.unusedVariables false
set_option linter.unusedSimpArgs false
set_option maxRecDepth 100000
set_option maxHeartbeats 4000000
open Go.RowKit
namespace Go.Proofs.YthlpmldmhakhaaaGreatDoor
open Tryz
abbrev aOs:=@List.flatMap_append
abbrev aO1:=@List.flatMap_cons
abbrev aO5:=@List.flatMap_nil
abbrev aQT:=@Nat.mul_le_mul
abbrev aRa:=@Option.map_eq_none_iff
abbrev aRn:=@List.length_finRange
theorem afr {l:List bC} (h:nW l=0):l.length≤100∧∀ o∈l,o.a7=0:=by
 unfold nW at h;split at h
 ·cases h
 ·refine ⟨by omega,λ o bk=> ?_⟩;split at h
  ·rename_i x hx
   have:=aPY hx;rw [h] at this;exact nomatch this
  ·rename_i hx
   have:=aOl.1 hx o bk;simpa using this
section
variable {k:Nat} {l:List bC}
def xg (W:ae) (k:Nat):List (Int×Int):=(W.ah.take k).map λ t=>(t.id,t.owner)
theorem axn {W:ae} (h:k<W.ah.length):xg W (k+1)=xg W k++ [((W.ah.getD k default).id,(W.ah.getD k default).owner)]:=by
 unfold xg;rw [AI (d:=default) h,aNx];rfl
theorem axp {W:ae} (ar:Good W) (h:k<W.ah.length):cN (xg W k) (W.ah.getD k default).id=none:=by
 unfold cN xg;rw [List.find?_map,aRa,aRa,aOl];intro x hx;obtain ⟨i,ak,e⟩:=aNZ.1 hx;rw [aM9] at ak;rw [List.getElem_take] at e;have:=(aNS.1 ar.G0) i k (by omega) h (by omega);rw [← e,oz h];have κ:=this.1;simp only [Function.comp_apply,aNV];omega
def may (W:ae) (o:bC):Bool:=if o.kind=5 then decide (o.by_<(W.bj.length:Int)) && (o.by_ == o.by_) else (cN (xg W W.ah.length) o.bf).isSome && ((cN (xg W W.ah.length) o.bf).getD 0 == o.by_)
def hl (W:ae) (l:List bC) (k:Nat):List eN:=(l.take k).flatMap λ o=>if may W o=true then mA o else []
theorem Vm {W:ae} (h:k<l.length) (hm:may W (l.getD k default)=true):hl W l (k+1)=hl W l k++mA (l.getD k default):=by
 unfold hl;rw [AI (d:=default) h,aOs,aO1,aO5,aNA,aNd hm]
theorem Vl {W:ae} (h:k<l.length) (hm:may W (l.getD k default)=false):hl W l (k+1)=hl W l k:=by
 unfold hl;rw [AI (d:=default) h,aOs,aO1,aO5,aNA,aM4 (by rw [hm];decide),aNA]
theorem agy (W:ae) (l:List bC):∀ k,(hl W l k).length≤k
 | 0=>by simp [hl]
 | k+1=>by
  have bu:=agy W l k;by_cases h:k<l.length
  ·cases hm:may W (l.getD k default) with
   | true=>rw [Vm h hm,aM6];have:(mA (l.getD k default)).length≤1:=(by unfold mA;(repeat' split)<;>simp);omega
   | false=>rw [Vl h hm];omega
  ·have:hl W l (k+1)=hl W l k:=by unfold hl;rw [aNr (by omega),aNr (by omega)]
   rw [this];omega
def ho (W:ae) (l:List bC) (k:Nat):List dU:=(l.take k).flatMap λ o=>if may W o=true then mC o else []
theorem Vr {W:ae} (h:k<l.length) (hm:may W (l.getD k default)=true):ho W l (k+1)=ho W l k++mC (l.getD k default):=by
 unfold ho;rw [AI (d:=default) h,aOs,aO1,aO5,aNA,aNd hm]
theorem Vq {W:ae} (h:k<l.length) (hm:may W (l.getD k default)=false):ho W l (k+1)=ho W l k:=by
 unfold ho;rw [AI (d:=default) h,aOs,aO1,aO5,aNA,aM4 (by rw [hm];decide),aNA]
theorem agA (W:ae) (l:List bC):∀ k,(ho W l k).length≤k
 | 0=>by simp [ho]
 | k+1=>by
  have bu:=agA W l k;by_cases h:k<l.length
  ·cases hm:may W (l.getD k default) with
   | true=>rw [Vr h hm,aM6];have:(mC (l.getD k default)).length≤1:=(by unfold mC;(repeat' split)<;>simp);omega
   | false=>rw [Vq h hm];omega
  ·have:ho W l (k+1)=ho W l k:=by unfold ho;rw [aNr (by omega),aNr (by omega)]
   rw [this];omega
def hW (W:ae) (l:List bC) (k:Nat):List dc:=(l.take k).flatMap λ o=>if may W o=true then mB o else []
theorem Vo {W:ae} (h:k<l.length) (hm:may W (l.getD k default)=true):hW W l (k+1)=hW W l k++mB (l.getD k default):=by
 unfold hW;rw [AI (d:=default) h,aOs,aO1,aO5,aNA,aNd hm]
theorem Vn {W:ae} (h:k<l.length) (hm:may W (l.getD k default)=false):hW W l (k+1)=hW W l k:=by
 unfold hW;rw [AI (d:=default) h,aOs,aO1,aO5,aNA,aM4 (by rw [hm];decide),aNA]
theorem agz (W:ae) (l:List bC):∀ k,(hW W l k).length≤k
 | 0=>by simp [hW]
 | k+1=>by
  have bu:=agz W l k;by_cases h:k<l.length
  ·cases hm:may W (l.getD k default) with
   | true=>rw [Vo h hm,aM6];have:(mB (l.getD k default)).length≤1:=(by unfold mB;(repeat' split)<;>simp);omega
   | false=>rw [Vn h hm];omega
  ·have:hW W l (k+1)=hW W l k:=by unfold hW;rw [aNr (by omega),aNr (by omega)]
   rw [this];omega
theorem Vt (W:ae) (l:List bC) (k:Nat):(hl W l k).length≤k∧(ho W l k).length≤k∧(hW W l k).length≤k:=⟨agy W l k,agA W l k,agz W l k⟩
theorem agF (A:Option Addr) (c:Nat) (l:List bC) (p2:ae.cW) (W:ae) (w:World) (ay:bC.rep.aQ 48 w A c l) (b8:ae.Has w p2 W):
  Calls prog 86 #[.slice A l.length c, .agg ((ae.cells p2 W).toArray)] w (λ e w'=>∃ ft bU cc bd cz bM,((nW l≠0∧e= .returned (.tuple #[.slice none 0 0, .slice none 0 0, .slice none 0 0,γ (nW l)]))∨(nW l=0∧W.a7≠0∧e= .returned (.tuple #[.slice none 0 0, .slice none 0 0, .slice none 0 0,γ W.a7]))∨(nW l=0∧W.a7=0∧e= .returned (.tuple #[.slice ft (hl W l l.length).length bU, .slice cc (ho W l l.length).length bd, .slice cz (hW W l l.length).length bM,γ 0])∧eN.rep.aM 210 16 w' w.heap.size (Φ.ab ft) ft bU (hl W l l.length)∧dU.rep.aM 212 24 w' w.heap.size (Φ.ab cc) cc bd (ho W l l.length)∧dc.rep.aM 191 40 w' w.heap.size (Φ.ab cz) cz bM (hW W l l.length)))∧Ext w w'):=by
 have Gp:=ay.kr;refine cx (n:=82) func86 Z Z Z ?_;refine fa Z Z λ dk bx bm fQ ag=> ?_;have jd:=ag.lt;refine va Z<|va Z<|va Z<|aT Z<|aI<|aK Z<|c0 aoC Z (aw1 _ _ l _ (ay.keep bm)) λ fT ea=> ?_;have:=ea.size;have b7:=J bm ea;refine aT Z<|aK Z<|gN Z Z<|aJ<| ?_;refine oq Z (λ hH=> ?_) (λ hH=> ?_)
 ·refine aK Z<|va Z<|va Z<|va Z<|bH Z<|cU<|dS (.tmp Z (.tmp Z (.tmp Z (.tmp Z .nil))))<| ?_;exact ⟨none,0,none,0,none,0, .inl ⟨hH,Z⟩,b7⟩
 ·obtain ⟨aGx,_⟩:=afr (by simpa using hH);refine bE<|aI<|aF<| ?_;have ag:=ag.later ea;refine aa (aB Z (ag.all fg cQ))<|c0 FP Z (Fu p2 W _ (b8.keep b7)) λ xp eA=> ?_;have:=eA.size;have iU:=J b7 eA;refine aT Z<|aK Z<|gN Z Z<|aJ<| ?_;refine oq Z (λ j6=> ?_) (λ j6=> ?_)
  ·refine aK Z<|va Z<|va Z<|va Z<|bH Z<|cU<|dS (.tmp Z (.tmp Z (.tmp Z (.tmp Z .nil))))<| ?_;exact ⟨none,0,none,0,none,0, .inr (.inl ⟨by simpa using hH,j6,rfl⟩),iU⟩
  ·have ar:=Good.um (by simpa using j6);have BZ:=ar.dD;refine bE<|aF<|UI Z λ s3 qH gw ad6 aj3=> ?_;have iV:=J iU gw;refine aT Z<|aI<|aF<|aa (au kk Z)<| ?_;have ag:=ag.later (J eA gw);refine bA Z ag mh Z<|aa (dr underlying50 Z)<|vm Z<|aJ<|bT<| ?_;refine gi (λ cJ cu aV=>∃ k:Nat,cu= [(0, .slice A l.length c),(3, .pointer (a_ bx)),(4, .slice none 0 0),(5, .slice none 0 0),(6, .slice none 0 0),(7,γ 0),(10, .map (some qH)),(30, .slice p2.T W.ah.length p2.t),(31,γ (W.ah.length:Int)),(32,γ (k:Int))]∧cJ=W.ah.length - k∧Ext w aV∧aO aV bx (ae.cells p2 W) 52 (0,0)∧oh aV qH (xg W k)∧(k≤W.ah.length)) _ _ ⟨0,Z,Z,iV,ag,aj3,by omega⟩ (eS Z Z Z) ?_;rintro ud ajr Hf ⟨k,rfl,rfl,nu,ag,hM,aj⟩;have aKt:=ag.lt;have U0:=hM.lt;refine aF<|fB Z Z<|aJ<|aI<| ?_;refine fH Z (λ S3=> ?_) (λ S3=> ?_)
   ·refine bE<|aI<|bT<|aF<|aa (bX k underlying50 kl Z Z ((b8.T.keep nu).bw (aZ k)) Z (by omega))<|aa (aB Z (Φ.aQ.jJ js ((b8.T.keep nu).cg (aZ k)) (cj (l:=W.ah) (u:=default) (by omega)) zZ kl))<|dn FQ Z λ K3 Yq eL aea xQ=> ?_;have s_:=J nu eL;refine c9 Z Z xQ Z kl Z Z λ xr rH xQ=> ?_;have jW:=Ext.mod s_ rH bF;refine aJ<|rg<|vm Z<|aa (au FR Z)<|bA Z xQ a6 Z<|aa (au BE Z)<|bA Z xQ a6 Z<| ?_;have hM:=(hM.later eL).mod rH aY;refine mu underlying180 underlying3 hM (axp ar (by omega)) Z Z Z λ V3 wW hM=> ?_;have xG:=Ext.mod jW wW bF;refine nl<|cl<|eR Z Z Z<| ?_;have aR:xg W (k+1)=xg W k++ [((W.ah.getD k default).id,(W.ah.getD k default).owner)]:=axn (by omega);have ag:=((ag.later eL).mod rH aY).mod wW aY;exact eX ⟨k+1,Z,Z,xG,ag,(by rw [aR];exact hM),by omega⟩
   ·refine ej<|ei<|eU<|eh<|br<|aF<|dn aoE Z λ xt q9 r0 auq CN=> ?_;have nx:=J nu r0;refine aJ<|aI<|aK Z<|aa (dr underlying53 Z)<|vm Z<|aJ<|bT<| ?_;have mS:k=W.ah.length:=by omega
    subst mS;have ag:=ag.later r0;have hM:=hM.later r0;refine gi (λ cJ cu aV=>∃ j:Nat,∃ ft:Option Addr,∃ bU:Nat,∃ cc:Option Addr,∃ bd:Nat,∃ cz:Option Addr,∃ bM:Nat,cu= [(3, .pointer (a_ bx)),(4, .slice none 0 0),(5, .slice none 0 0),(6, .slice none 0 0),(7,γ 0),(10, .map (some qH)),(13, .pointer (a_ q9)),(42, .slice A l.length c),(43,γ (l.length:Int)),(44,γ (j:Int))]∧cJ=l.length - j∧Ext w aV∧aO aV bx (ae.cells p2 W) 52 (0,0)∧oh aV qH (xg W W.ah.length)∧aO aV q9 [.slice ft ((hl W l j).length) bU, .slice cc ((ho W l j).length) bd, .slice cz ((hW W l j).length) bM] 182 (0,0)∧eN.rep.aM 210 16 aV w.heap.size (Φ.ab ft) ft bU (hl W l j)∧dU.rep.aM 212 24 aV w.heap.size (Φ.ab cc) cc bd (ho W l j)∧dc.rep.aM 191 40 aV w.heap.size (Φ.ab cz) cz bM (hW W l j)∧(j≤l.length)∧(∀ q∈Φ.ab ft,q=bx→False)∧(∀ q∈Φ.ab ft,q=qH→False)∧(∀ q∈Φ.ab ft,q=q9→False)∧(∀ q∈Φ.ab cc,q=bx→False)∧(∀ q∈Φ.ab cc,q=qH→False)∧(∀ q∈Φ.ab cc,q=q9→False)∧(∀ q∈Φ.ab cc,q∈Φ.ab ft→False)∧(∀ q∈Φ.ab cz,q=bx→False)∧(∀ q∈Φ.ab cz,q=qH→False)∧(∀ q∈Φ.ab cz,q=q9→False)∧(∀ q∈Φ.ab cz,q∈Φ.ab ft→False)∧(∀ q∈Φ.ab cz,q∈Φ.ab cc→False)) _ _ ⟨0,none,0,none,0,none,0,Z,Z,nx,ag,hM,CN,(Φ.aM.nil _),(Φ.aM.nil _),(Φ.aM.nil _),by omega,(λ q I af=>by (simp [Φ.ab] at I)),(λ q I af=>by (simp [Φ.ab] at I)),(λ q I af=>by (simp [Φ.ab] at I)),(λ q I af=>by (simp [Φ.ab] at I)),(λ q I af=>by (simp [Φ.ab] at I)),(λ q I af=>by (simp [Φ.ab] at I)),(λ q I af=>by (simp [Φ.ab] at I)),(λ q I af=>by (simp [Φ.ab] at I)),(λ q I af=>by (simp [Φ.ab] at I)),(λ q I af=>by (simp [Φ.ab] at I)),(λ q I af=>by (simp [Φ.ab] at I)),(λ q I af=>by (simp [Φ.ab] at I))⟩ (eS Z Z Z) ?_;rintro oQ aDT V8 ⟨j,ft,bU,cc,bd,cz,bM,rfl,rfl,u_,ag,hM,bp,nF,nG,nH,aw,FF,FG,zS,vR,ou,p5,sy,mP,mQ,By,sz,FH⟩;have afR:=ag.lt;have afS:=hM.lt;have ayh:=bp.lt;have Px:=bZ nF.lt;have xn:=bZ nG.lt;have Py:=bZ nH.lt;have yF:=Vt W l j;refine aF<|fB Z Z<|aJ<|aI<| ?_;refine fH Z (λ Ag=> ?_) (λ Ag=> ?_)
    ·have ace:=bC.Q' ay _ (mr (d:=default) (show j<l.length by omega));refine bE<|aI<|bT<|aF<|aa (bX j underlying53 fV Z Z ((ay.keep u_).bw (aZ j)) Z (by omega))<|aa (aB Z (Φ.aQ.jJ abC ((ay.keep u_).cg (aZ j)) (cj (l:=l) (u:=default) (by omega)) j4 fV))<|dn M8 Z λ ahv aEY l1 aIE r8=> ?_;have Ls:=J u_ l1;have aKT:=r8.lt;refine c9 Z Z r8 Z fV Z Z λ aBa gS r8=> ?_;have:=gS.size;have HA:=Ext.mod Ls gS bF;refine aJ<|aK Z<|aa (au Dj Z)<|bA Z r8 a6 Z<| ?_;have hM:=(hM.later l1).mod gS aY;refine aa (lk underlying180 underlying3 R3 hM Z Z)<|vm Z<|b0 Z Z<|b0 Z Z<|va Z<|aT Z<|aI<|aF<|aa (au ow Z)<|bA Z r8 a6 Z<|aa (beq Z Z)<|aJ<| ?_;refine lf Z (λ yy=> ?_) (λ yy=> ?_)
     ·refine dw [(1,0),(3,0),(5,0)] [0,1,2,3,4,5,6,7,8,9] ?_;refine ax Z (λ _=>au FM Z)<|cP Z Z r8 a6 Z<|ax Z (λ _=>au FM Z)<|cP Z Z r8 a6 Z<|ax Z (λ _=>au sD Z)<| ?_;have ag:=(ag.later l1).mod gS aY;refine cP Z Z ag yo Z<|ax Z (λ _=>dr underlying49 Z)<|ax Z (λ _=>blt Z Z)<|ax Z (λ _=>eV Z)<|ax Z (λ _=>eV Z)<|fn λ EJ eG=> ?_;have:=eG.size;have kz:=J HA eG;refine br<|aK Z<|vm Z<|fS Z Z<|b9 Z (λ hc=>au FM Z)<| ?_;have r8:=r8.later eG;refine b9 Z (λ hc=>aB (gt hc Z) (r8.one a6 Z))<|b9 Z (λ hc=>beq (gt hc Z) (gt hc Z))<|aa (eZ Z Z Z Z)<|aJ<| ?_;refine c1 Z (λ Th=> ?_) (λ Th=> ?_)
      ·have ql:may W (l.getD j default)=true:=by unfold may;rw [aNd yy];rw [← Th]
       refine rg<|aa (aB Z (r8.all j4 fV))<| ?_;have bp:=((bp.later l1).mod gS aY).later eG;have nF:=((nF.later l1).mod gS (bl Px)).later eG;have nG:=((nG.later l1).mod gS (bl xn)).later eG;have nH:=((nH.later l1).mod gS (bl Py)).later eG;have aqH:∀ q∈(q9::(Φ.ab ft++(Φ.ab cc++Φ.ab cz))),w.heap.size≤q:=by
        intro q I;simp only [aNg,aNi] at I;rcases I with I | I | I | I
        ·omega
        ·exact (nF.lt q I).1
        ·exact (nG.lt q I).1
        ·exact (nH.lt q I).1
       refine ca Z2 Z Z ((X6 (l.getD j default) w q9 _ _ _ _ _ _ _ _ _ _ kz ace bp nF nG nH zS p5 By sy sz FH (by omega) (by omega) (by omega)).mono ?_);rintro e Wa ⟨aiT,amH,aiU,amI,aiV,amJ,rfl,LC,akM,akN,akO,an8,an9,aoa,anY,anZ,an0,aaU,aaV,aaW,ug⟩;refine cF ?_;have E0:=Ext.mod kz ug aqH;refine nl<|cl<|eR Z Z Z<| ?_;have a1:hl W l (j+1)=hl W l j++mA (l.getD j default):=Vm (by omega) ql;have cL:ho W l (j+1)=ho W l j++mC (l.getD j default):=Vr (by omega) ql;have iY:hW W l (j+1)=hW W l j++mB (l.getD j default):=Vo (by omega) ql;have ag:=ag.later eG;have awO:bx∉(q9::(Φ.ab ft++(Φ.ab cc++Φ.ab cz))):=by
        intro I;simp only [aNg,aNi] at I;rcases I with I | I | I | I
        ·omega
        ·exact (λ q (κ:q∈Φ.ab ft) (τ:q=bx)=>show False by (exact FF q κ τ)) _ I Z
        ·exact (λ q (κ:q∈Φ.ab cc) (τ:q=bx)=>show False by (exact vR q κ τ)) _ I Z
        ·exact (λ q (κ:q∈Φ.ab cz) (τ:q=bx)=>show False by (exact mP q κ τ)) _ I Z
       have ag:=ag.mod ug awO;have hM:=hM.later eG;have awP:qH∉(q9::(Φ.ab ft++(Φ.ab cc++Φ.ab cz))):=by
        intro I;simp only [aNg,aNi] at I;rcases I with I | I | I | I
        ·omega
        ·exact (λ q (κ:q∈Φ.ab ft) (τ:q=qH)=>show False by (exact FG q κ τ)) _ I Z
        ·exact (λ q (κ:q∈Φ.ab cc) (τ:q=qH)=>show False by (exact ou q κ τ)) _ I Z
        ·exact (λ q (κ:q∈Φ.ab cz) (τ:q=qH)=>show False by (exact mQ q κ τ)) _ I Z
       have hM:=hM.mod ug awP;exact eX ⟨j+1,aiT,amH,aiU,amI,aiV,amJ,Z,Z,E0,ag,hM,(by rw [a1,cL,iY];exact LC),(by rw [a1];exact akM),(by rw [cL];exact akN),(by rw [iY];exact akO),by omega,(gz aaU FF),(gz aaU FG),an8,(gz aaV vR),(gz aaV ou),an9,anY,(gz aaW mP),(gz aaW mQ),aoa,anZ,an0⟩
      ·have ql:may W (l.getD j default)=false:=by unfold may;rw [aNd yy];rw [← Th]
       refine fZ<|cl<|eR Z Z Z<| ?_;have a1:hl W l (j+1)=hl W l j:=Vl (by omega) ql;have cL:ho W l (j+1)=ho W l j:=Vq (by omega) ql;have iY:hW W l (j+1)=hW W l j:=Vn (by omega) ql;have ag:=ag.later eG;have hM:=hM.later eG;have bp:=((bp.later l1).mod gS aY).later eG;have nF:=((nF.later l1).mod gS (bl Px)).later eG;have nG:=((nG.later l1).mod gS (bl xn)).later eG;have nH:=((nH.later l1).mod gS (bl Py)).later eG;exact eX ⟨j+1,ft,bU,cc,bd,cz,bM,Z,Z,kz,ag,hM,(by rw [a1,cL,iY];exact bp),(by rw [a1];exact nF),(by rw [cL];exact nG),(by rw [iY];exact nH),by omega,FF,FG,zS,vR,ou,p5,sy,mP,mQ,By,sz,FH⟩
     ·refine bE<|aK Z<|vm Z<|fS Z Z<|b9 Z (λ hc=>au FM Z)<|b9 Z (λ hc=>aB (gt hc Z) (r8.one a6 Z))<|b9 Z (λ hc=>beq (gt hc Z) (gt hc Z))<|aa (eZ Z Z Z Z)<|aJ<| ?_;refine c1 Z (λ SY=> ?_) (λ SY=> ?_)
      ·have ql:may W (l.getD j default)=true:=by unfold may;rw [aM4 yy];rw [← SY]
       refine rg<|aa (aB Z (r8.all j4 fV))<| ?_;have bp:=(bp.later l1).mod gS aY;have nF:=(nF.later l1).mod gS (bl Px);have nG:=(nG.later l1).mod gS (bl xn);have nH:=(nH.later l1).mod gS (bl Py);have aqG:∀ q∈(q9::(Φ.ab ft++(Φ.ab cc++Φ.ab cz))),w.heap.size≤q:=by
        intro q I;simp only [aNg,aNi] at I;rcases I with I | I | I | I
        ·omega
        ·exact (nF.lt q I).1
        ·exact (nG.lt q I).1
        ·exact (nH.lt q I).1
       refine ca Z2 Z Z ((X6 (l.getD j default) w q9 _ _ _ _ _ _ _ _ _ _ HA ace bp nF nG nH zS p5 By sy sz FH (by omega) (by omega) (by omega)).mono ?_);rintro e aAQ ⟨air,amc,ais,amd,ait,ame,rfl,ai0,akl,akm,akn,an5,an6,an7,anV,anW,anX,aaK,aaL,aaM,Ux⟩;refine cF ?_;have Ws:=Ext.mod HA Ux aqG;refine nl<|cl<|eR Z Z Z<| ?_;have a1:hl W l (j+1)=hl W l j++mA (l.getD j default):=Vm (by omega) ql;have cL:ho W l (j+1)=ho W l j++mC (l.getD j default):=Vr (by omega) ql;have iY:hW W l (j+1)=hW W l j++mB (l.getD j default):=Vo (by omega) ql;have ag:=(ag.later l1).mod gS aY;have awM:bx∉(q9::(Φ.ab ft++(Φ.ab cc++Φ.ab cz))):=by
        intro I;simp only [aNg,aNi] at I;rcases I with I | I | I | I
        ·omega
        ·exact (λ q (κ:q∈Φ.ab ft) (τ:q=bx)=>show False by (exact FF q κ τ)) _ I Z
        ·exact (λ q (κ:q∈Φ.ab cc) (τ:q=bx)=>show False by (exact vR q κ τ)) _ I Z
        ·exact (λ q (κ:q∈Φ.ab cz) (τ:q=bx)=>show False by (exact mP q κ τ)) _ I Z
       have ag:=ag.mod Ux awM;have awN:qH∉(q9::(Φ.ab ft++(Φ.ab cc++Φ.ab cz))):=by
        intro I;simp only [aNg,aNi] at I;rcases I with I | I | I | I
        ·omega
        ·exact (λ q (κ:q∈Φ.ab ft) (τ:q=qH)=>show False by (exact FG q κ τ)) _ I Z
        ·exact (λ q (κ:q∈Φ.ab cc) (τ:q=qH)=>show False by (exact ou q κ τ)) _ I Z
        ·exact (λ q (κ:q∈Φ.ab cz) (τ:q=qH)=>show False by (exact mQ q κ τ)) _ I Z
       have hM:=hM.mod Ux awN;exact eX ⟨j+1,air,amc,ais,amd,ait,ame,Z,Z,Ws,ag,hM,(by rw [a1,cL,iY];exact ai0),(by rw [a1];exact akl),(by rw [cL];exact akm),(by rw [iY];exact akn),by omega,(gz aaK FF),(gz aaK FG),an5,(gz aaL vR),(gz aaL ou),an6,anV,(gz aaM mP),(gz aaM mQ),an7,anW,anX⟩
      ·have ql:may W (l.getD j default)=false:=by unfold may;rw [aM4 yy];rw [← SY]
       refine fZ<|cl<|eR Z Z Z<| ?_;have a1:hl W l (j+1)=hl W l j:=Vl (by omega) ql;have cL:ho W l (j+1)=ho W l j:=Vq (by omega) ql;have iY:hW W l (j+1)=hW W l j:=Vn (by omega) ql;have ag:=(ag.later l1).mod gS aY;have bp:=(bp.later l1).mod gS aY;have nF:=(nF.later l1).mod gS (bl Px);have nG:=(nG.later l1).mod gS (bl xn);have nH:=(nH.later l1).mod gS (bl Py);exact eX ⟨j+1,ft,bU,cc,bd,cz,bM,Z,Z,HA,ag,hM,(by rw [a1,cL,iY];exact bp),(by rw [a1];exact nF),(by rw [cL];exact nG),(by rw [iY];exact nH),by omega,FF,FG,zS,vR,ou,p5,sy,mP,mQ,By,sz,FH⟩
    ·refine ej<|ei<|eU<|eh<|br<|aI<| ?_;refine dw [(1,0),(3,0),(5,0)] [0,1,2,3,4,5,6,7,8,9] ?_;refine ax Z (λ _=>au RN Z)<|cP Z Z bp Z0 Z<|ax Z (λ _=>au RO Z)<|cP Z Z bp Z1 Z<|ax Z (λ _=>au Dl Z)<|cP Z Z bp M9 Z<|ax Z (λ _=>eV Z)<|ax Z (λ _=>eV Z)<|ax Z (λ _=>eV Z)<|ax Z (λ _=>eV Z)<|fn λ aLE PV=> ?_;have aB8:=J u_ PV;refine br<|rt<|dS (.tmp Z (.tmp Z (.tmp Z (.tmp Z .nil))))<| ?_;have nF:=nF.later PV;have nG:=nG.later PV;have nH:=nH.later PV;have R9:j=l.length:=by omega
     subst R9;exact ⟨ft,bU,cc,bd,cz,bM, .inr (.inr ⟨by simpa using hH,by simpa using j6,rfl,nF,nG,nH⟩),aB8⟩
end
section
variable {l:List bC}
def lV (W:ae) (l:List bC):Int:=if nW l≠0 then nW l else W.a7
theorem Vp {W:ae} (h:lV W l=0):nW l=0∧W.a7=0:=by
 unfold lV at h;split at h
 ·rename_i κ;exact absurd h κ
 ·rename_i κ;exact ⟨by simpa using κ,h⟩
theorem azB {W:ae} (h:lV W l=0):l.length≤100:=(afr (Vp h).1).1
theorem azC (A:Option Addr) (c:Nat) (l:List bC) (p2:ae.cW) (W:ae) (w:World) (ay:bC.rep.aQ 48 w A c l) (b8:ae.Has w p2 W) (h:lV W l≠0):Calls prog 86 #[.slice A l.length c, .agg (ae.cells p2 W).toArray] w (λ e w'=>e= .returned (.tuple #[.slice none 0 0, .slice none 0 0, .slice none 0 0, .int .i64 (lV W l)])∧Ext w w'):=by
 refine (agF A c l p2 W w ay b8).mono λ e w' he=> ?_;obtain ⟨ft,bU,cc,bd,cz,bM,(⟨κ,τ⟩ | ⟨κ,τ,aq⟩ | ⟨κ,τ,_⟩),hx⟩:=he
 ·exact ⟨by rw [τ];unfold lV;rw [aNd κ],hx⟩
 ·exact ⟨by rw [aq];unfold lV;rw [aM4 (by simpa using κ)],hx⟩
 ·exact absurd (by unfold lV;rw [aM4 (by simpa using κ)];exact τ) h
theorem agG (A:Option Addr) (c:Nat) (l:List bC) (p2:ae.cW) (W:ae) (w:World) (ay:bC.rep.aQ 48 w A c l) (b8:ae.Has w p2 W) (h:lV W l=0):Calls prog 86 #[.slice A l.length c, .agg (ae.cells p2 W).toArray] w (λ e w'=>∃ ft bU cc bd cz bM,e= .returned (.tuple #[.slice ft (hl W l l.length).length bU, .slice cc (ho W l l.length).length bd, .slice cz (hW W l l.length).length bM, .int .i64 0])∧eN.rep.aM 210 16 w' w.heap.size (Φ.ab ft) ft bU (hl W l l.length)∧dU.rep.aM 212 24 w' w.heap.size (Φ.ab cc) cc bd (ho W l l.length)∧dc.rep.aM 191 40 w' w.heap.size (Φ.ab cz) cz bM (hW W l l.length)∧Ext w w'):=by
 obtain ⟨di,a2⟩:=Vp h;refine (agF A c l p2 W w ay b8).mono λ e w' he=> ?_;obtain ⟨ft,bU,cc,bd,cz,bM,(⟨κ,τ⟩ | ⟨κ,τ,aq⟩ | ⟨κ,τ,aq,bb,bV,cy⟩),hx⟩:=he
 ·exact absurd di κ
 ·exact absurd a2 τ
 ·exact ⟨ft,bU,cc,bd,cz,bM,aq,bb,bV,cy,hx⟩
end
section
variable {o:Oper} {id:Nat} {op:Op}
section
variable {F:List Nat} {P:Program} {ops:Array Oper} {Q:Exit→Act→World→Prop} {aL:Nat→Nat}
def tB (F:List Nat) (P:Program) (ops:Array Oper) (w0:World) (o:Oper) (v:Value) (a:Act):Prop :=
  (Region.wanted o (yielded ops a.tmps)=true∧∀ w,Mod F w0 w→uo P w v ((execOp a.eval o).run P w))∨
  (Region.wanted o (yielded ops a.tmps)=false∧v=undef)
theorem tB.of_same {w0:World} {v:Value} {a a':Act} (h:tB F P ops w0 o v a) (he:execOp a'.eval o=execOp a.eval o) (hw:Region.wanted o (yielded ops a'.tmps)=Region.wanted o (yielded ops a.tmps)):tB F P ops w0 o v a':=by
  unfold tB at *;rw [he,hw];exact h
theorem tB.on {w0 aN:World} {v:Value} {a:Act} (h:tB F P ops w0 o v a) (hx:Mod F w0 aN):tB F P ops aN o v a :=
  h.imp (λ ⟨κ,τ⟩=>⟨κ,λ w hw=>τ w (hx.trans hw)⟩) id
theorem Yields.aym {w0:World} {v:Value} {a:Act} (h:Yields P ops o v a):tB F P ops w0 o v a :=
  h.imp (λ ⟨κ,τ⟩=>⟨κ,λ w _=>by rw [τ w];exact ⟨rfl,rfl⟩⟩) id
def azN (F:List Nat) (P:Program) (ops:Array Oper) (Q:Exit→Act→World→Prop) (aL:Nat→Nat) (i:Nat) (K:Act→World→Prop) (a:Act) (w0:World):Prop :=
  ∃ o,ops[i]? =some o∧
    ((aL i≤1∧∃ v,tB F P ops w0 o v a∧K (a.put o.dst v) w0)∨
     (1<aL i∧∀ w,Ext w0 w→wpOp P ops Q i (λ a' w'=>(aL i=2→Mod F w0 w')∧K a' w') a w))
def Iq (F:List Nat) (P:Program) (ops:Array Oper) (Q:Exit→Act→World→Prop) (aL:Nat→Nat):Nat→Array Bool→Act→World→Prop
  | 0,l,a,w0=>Region.ready .any ops l= []∧∀ w,Ext w0 w→Q .normal a w
  | f+1,l,a,w0=>(Region.ready .any ops l= []→∀ w,Ext w0 w→Q .normal a w)∧∀ i∈Region.ready .any ops l,azN F P ops Q aL i (Iq F P ops Q aL f (l.setIfInBounds i true)) a w0
theorem Fk:∀ (f:Nat) (l:Array Bool) (a:Act) (w0:World),Iq F P ops Q aL f l a w0→∀ w,Ext w0 w→wpAny P .any ops Q f l a w
  | 0,_,_,_,h,w,hw=>⟨h.1,h.2 w hw⟩
  | f+1,l,a,w0,h,w,hw=>⟨λ aC=>h.1 aC w hw,λ i ak=>by
      obtain ⟨o,bk,τ⟩:=h.2 i ak;rcases τ with ⟨_,v,I,aj⟩ | ⟨_,τ⟩
      · unfold wpOp
        simp only [bk];rcases I with ⟨jb,I⟩ | ⟨jb,rfl⟩
        · rw [aNd jb]
          refine .inl ?_;have I:=I w (Mod.aP hw);unfold Oper.wp;generalize (execOp a.eval o).run P w=r at *
          cases r with
          | ok n w' =>
            cases n<;>simp only [uo] at I<;>simp only [Oper.upon]
            case value u=>obtain ⟨rfl,rfl⟩:=I;exact Fk f _ _ _ aj _ hw
            case skip=>obtain ⟨rfl,rfl⟩:=I;exact Fk f _ _ _ aj _ hw
            case enter f' args=>obtain ⟨rfl,hc⟩:=I;exact hc.mono λ e ku ⟨he,hx⟩=>by subst he;exact Fk f _ _ _ aj _ (hw.n4 hx)
          | halt x w'=>simp only [uo] at I
        · rw [aM4 (by rw [jb];decide)]
          exact Fk f _ _ _ aj _ hw
      · exact aOK (λ a' w' aq=>Fk f _ _ _ aq.2 _ (Ext.bN w')) (τ w hw)⟩
theorem aav {i:Nat} {c8:Oper} {v:Value} (ak:ops[i]? =some c8) (aj:aL i≤1) (j9:∀ (j:Nat) (o:Oper) cs b,ops[j]? =some o→o.op≠ .select cs b)
    (eJ:∀ c a w,¬ Q (.panic c) a w) (aA:World→Act→Prop) (ky:∀ w0 a,aA w0 a→tB F P ops w0 c8 v a)
    (z2:∀ w0 a a',aA w0 a→execOp a'.eval c8=execOp a.eval c8→Region.wanted c8 (yielded ops a'.tmps)=Region.wanted c8 (yielded ops a.tmps)→aA w0 a')
    (z3:∀ w0 aN a,Mod F w0 aN→aA w0 a→aA aN a) (R:Nat→Bool) (qp:Array Bool)
    (hR:∀ j cK,ops[j]? =some cK→j≠i→(∀ e∈cK.after,Region.binds .any e=true→R e.on=true)→R j=true)
    (aS:(∀ w0 aN a,aA w0 a→aA aN a)∨∀ j,R j=true→3≤aL j→qp.getD j true=true):
    ∀ (f:Nat) (l:Array Bool) (a:Act) (w0:World),(∀ j,l.getD j false=true→R j=true)→(∀ j,qp.getD j true=true→l.getD j true=true)→
      (∀ j cK,ops[j]? =some cK→j≠i→l.getD j true=false→(∀ e∈cK.after,Region.binds .any e=true→e.on≠i)→c8.apart ops cK=true)→
      i∈Region.ready .any ops l→aA w0 a→Iq F P ops Q aL f (l.setIfInBounds i true) (a.put c8.dst v) w0→Iq F P ops Q aL (f+1) l a w0:=by
  intro f;induction f with
  | zero =>
    intro l a w0 _ _ _ hr bo H;refine ⟨λ h=>(by rw [h] at hr;cases hr),λ j aw=> ?_⟩;by_cases fi:j=i
    · subst fi;exact ⟨c8,ak, .inl ⟨aj,v,ky _ _ bo,H⟩⟩
    · have:=aOM aw fi
      rw [H.1] at this;cases this
  | succ f bu =>
    intro l a w0 wq wm wj hr bo H;refine ⟨λ h=>(by rw [h] at hr;cases hr),λ j aw=> ?_⟩;by_cases fi:j=i
    · subst fi;exact ⟨c8,ak, .inl ⟨aj,v,ky _ _ bo,H⟩⟩
    · obtain ⟨cK,hI,κ⟩:=H.2 j (aOM aw fi)
      obtain ⟨qj,ef,wy,ep⟩:=aPt.1 aw;obtain rfl:ef=cK:=by rw [hI] at wy;exact (aNf wy).symm
      have DN:∀ e∈ef.after,Region.binds .any e=true→e.on≠i:=λ e he af heq=>by
        have κ:=ep e he af;have aC:=(aPt.1 hr).1;rw [heq] at κ;rcases aOd i l.size with cp | cp
        · simp [cp] at aC κ;rw [aC] at κ;cases κ
        · simp [aNT cp] at κ
      have Ah:=wj j ef hI fi qj DN;obtain ⟨di,a2,a3⟩:=aP8 Ah;have DQ:∀ cs b,c8.op≠ .select cs b:=λ cs b=>j9 i c8 cs b ak;have rA:∀ cs b,ef.op≠ .select cs b:=λ cs b=>j9 j ef cs b hI;have keep:∀ aN a u,aA aN a→aA aN (a.put ef.dst u):=λ aN a u bo=>z2 _ _ _ bo (aO6 c8 DQ a ef.dst u a3) (aPh c8 a ef.dst u a3);have vZ:R j=true:=hR j ef hI fi λ e he af=>wq _ (ep e he af);have wu:∀ k,(l.setIfInBounds j true).getD k false=true→R k=true:=λ k aj=>by
        by_cases fL:j=k
        · rw [← fL];exact vZ
        · rw [aOD false fL] at aj;exact wq k aj
      have wo:∀ k,qp.getD k true=true→(l.setIfInBounds j true).getD k true=true:=λ k aj=>by
        by_cases fL:j=k
        · subst fL
          rcases aOd j l.size with cp | cp
          · simp [cp]
          · simp [aNT cp]
        · rw [aOD true fL];exact wm k aj
      have wk:∀ k ok,ops[k]? =some ok→k≠i→(l.setIfInBounds j true).getD k true=false→
          (∀ e∈ok.after,Region.binds .any e=true→e.on≠i)→c8.apart ops ok=true:=λ k ok aj lh wB ju=>by
        refine wj k ok aj lh ?_ ju;by_cases fL:j=k
        · subst fL;exact qj
        · rw [aOD true fL] at wB;exact wB
      have wz:=aOM hr (aPp fi);rcases κ with ⟨qk,u,I,hK⟩ | ⟨qk,κ⟩
      · refine ⟨ef,hI, .inl ⟨qk,u,I.of_same (aO6 ef rA a c8.dst v di).symm (aPh ef a c8.dst v di).symm, ?_⟩⟩
        refine bu _ _ _ wu wo wk wz (keep _ _ _ bo) ?_;rw [aN8 _ _ fi,← aOL a v u a2];exact hK
      · refine ⟨ef,hI, .inr ⟨qk,λ w hw=> ?_⟩⟩
        refine aOK (λ a' w' aq=>⟨aq.2.1, ?_⟩) (PR (aA:=aA w0) hI di a2 rA eJ (keep w0) (λ a d bo=>z2 _ _ _ bo Z Z) bo (κ w hw));have DV:aA w' a':=by
          rcases aOd (aL j) 3 with bB | Ak
          · exact z3 _ _ _ (aq.2.1 (by omega)) aq.1
          · rcases aS with aS | aS
            · exact aS _ _ _ aq.1
            · have:=wm j (aS j vZ Ak);rw [qj] at this;cases this
        refine bu _ _ _ wu wo wk wz DV ?_;rw [aN8 _ _ fi];exact aq.2.2
def Hl (F:List Nat) (P:Program) (ops:Array Oper) (Q:Exit→Act→World→Prop) (aL:Nat→Nat):List Nat→Act→World→Prop
  | [],a,w0=>∀ w,Ext w0 w→Q .normal a w
  | i::r,a,w0=>∃ o,ops[i]? =some o∧
      ((aL i=0∧∃ v,tB F P ops w0 o v a∧Hl F P ops Q aL r (a.put o.dst v) w0)∨
       (aL i=1∧∃ v,Yields P ops o v a∧Hl F P ops Q aL r (a.put o.dst v) w0)∨
       (1<aL i∧∀ w,Ext w0 w→wpOp P ops Q i (λ a' w'=>(aL i=2→Mod F w0 w')∧Hl F P ops Q aL r a' w') a w))
theorem Mo (hs:Region.noSelect ops=true) (eJ:∀ c a w,¬ Q (.panic c) a w):∀ (r:List Nat) (l:Array Bool) (a:Act) (w0:World),l.size=ops.size→hQ ops aL r l=true→Hl F P ops Q aL r a w0→Iq F P ops Q aL r.length l a w0
  | [],l,a,w0,_,aS,h=>⟨by simpa [hQ] using aS,h⟩
  | i::r,l,a,w0,ay,aS,h=>by
    obtain ⟨o,bk,h⟩:=h;have j9:=aO7 hs;rcases h with ⟨aj,v,I,hK⟩ | ⟨aj,v,I,hK⟩ | ⟨aj,h⟩
    · simp only [hQ,aj,aNa] at aS
      obtain ⟨⟨⟨hf,hr⟩,af⟩,aS⟩:=aS;obtain ⟨R,r1,r2,sW⟩:=Iu ay af;exact aav bk (by omega) j9 eJ (λ w0 a=>tB F P ops w0 o v a) (λ _ _ h=>h) (λ _ _ _ h he hw=>h.of_same he hw) (λ _ _ _ hx h=>h.on hx) R l r1 (.inr sW) _ _ _ _ r2 (λ _ h=>h) (aOo bk hf) (by simpa using hr) I
        (Mo hs eJ r _ _ _ (by simpa using ay) aS hK)
    · simp only [hQ,aj,aNa] at aS
      obtain ⟨⟨hf,hr⟩,aS⟩:=aS;exact aav bk (by omega) j9 eJ (λ _ a=>Yields P ops o v a) (λ _ _ h=>Yields.aym h) (λ _ _ _ h he hw=>h.of_same he hw) (λ _ _ _ _ h=>h) (λ _=>true) l (λ _ _ _ _ _=>Z) (.inl λ _ _ _ h=>h) _ _ _ _ (λ _ _=>Z) (λ _ h=>h) (aOo bk hf) (by simpa using hr) I
        (Mo hs eJ r _ _ _ (by simpa using ay) aS hK)
    · obtain ⟨k,lN⟩:∃ k,aL i=k+2:=⟨aL i - 2,by omega⟩
      simp only [hQ,lN,aNa,aNV] at aS;obtain ⟨hr,aS⟩:=aS;refine ⟨λ aC=>(by rw [hr] at aC;cases aC),λ j aw=> ?_⟩;rw [hr] at aw;obtain rfl:j=i:=by simpa using aw
      exact ⟨o,bk, .inr ⟨aj,λ w hw=>aOK (λ a' w' aq=>⟨aq.1,Mo hs eJ r _ _ _ (by simpa using ay) aS aq.2⟩) (h w hw)⟩⟩
theorem ayH {a:Act} {w:World} (ba:List Nat) (hm:P.follows .mixedOrders=true) (aS:(Region.noSelect ops && (ba.length == ops.size) && hQ ops aL ba (Array.replicate ops.size false))=true)
    (h:Hl F P ops (eY (Q .normal)) aL ba a w):(Code.region id ops true).wp P Q a w:=by
  simp only [aNa,aNV] at aS;obtain ⟨⟨hs,ay⟩,aS⟩:=aS;refine aQL (aPe hm (Q:=eY (Q .normal)) ?_) (λ e a w I=>by cases e<;>first | exact I | exact I.elim);have:=Mo (P:=P) hs (Q:=eY (Q .normal)) (λ _ _ _ h=>h) ba (Array.replicate ops.size false) a w (by simp) aS h;rw [ay] at this;exact Fk _ _ _ _ this _ (aNH _ w).drew
end
section
variable {F:List Nat} {P:Program} {n:Nat} {E cd:List (Nat×Value)} {a:Act} {w w' w0 aN:World} {Q:Exit→Act→World→Prop} {ops:Array Oper} {v:Value} {aL:Nat→Nat}
variable {d:Option Nat} {ty:TypeId} {pos:String} {aW:Array Edge} {g:Option (Nat×Bool)} {x y z:Operand} {t:TypeId} {rest:List Oper} {ba:List Nat} {i:Nat}
def xT (F:List Nat) (P:Program) (n:Nat) (ops:Array Oper) (Q:Exit→Act→World→Prop) (aL:Nat→Nat) (ba:List Nat) (E:List (Nat×Value)) (w0:World):Prop:=∀ a,c' n E a→Hl F P ops (eY (Q .normal)) aL ba a w0
theorem ayw (F:List Nat) (hU:List (Nat×Nat)) (ba:List Nat) (hm:P.follows .mixedOrders=true) (aS:(Region.noSelect ops && (ba.length == ops.size) && hQ ops (j_ hU) ba (Array.replicate ops.size false))=true)
    (h:xT F P n ops Q (j_ hU) ba E w):W P n (.region id ops true) Q E w:=λ a ha=>ayH ba hm aS (h a ha)
theorem ap7 (h:∀ w,Ext w0 w→N n Q E w):xT F P n ops Q aL [] E w0:=λ a ha w hw=>h w hw a ha
theorem aaF {d:Nat} (ak:ops[i]? =some ⟨some d,op,ty,pos,aW,none⟩) (aj:aL i=0) (hr:∀ w,Mod F w0 w→cG P E ⟨some d,op,ty,pos,aW,none⟩ w v w) (hd:Nat.blt d n=true)
    (h:xT F P n ops Q aL ba ((d,v)::E) w0):xT F P n ops Q aL (i::ba) E w0:=λ a ha =>
  ⟨_,ak, .inl ⟨aj,v, .inl ⟨qP rfl,λ w hw=>by rw [hr w hw n a ha];exact ⟨rfl,rfl⟩⟩,h _ (ha.put hd v)⟩⟩
theorem aqn {d:Nat} (ak:ops[i]? =some ⟨some d,op,ty,pos,aW,none⟩) (aj:aL i=1) (hr:∀ w,cG P E ⟨some d,op,ty,pos,aW,none⟩ w v w) (hd:Nat.blt d n=true)
    (h:xT F P n ops Q aL ba ((d,v)::E) w0):xT F P n ops Q aL (i::ba) E w0:=λ a ha =>
  ⟨_,ak, .inr (.inl ⟨aj,v, .inl ⟨qP rfl,λ w=>hr w n a ha⟩,h _ (ha.put hd v)⟩)⟩
theorem aqo (aU:o.guard=none) (ak:ops[i]? =some o) (aj:aL i=2) (h:∀ w,Ext w0 w→Bo P n ops o E w λ cd w'=>Mod F w0 w'∧xT F P n ops Q aL ba cd w'):xT F P n ops Q aL (i::ba) E w0:=λ a ha =>
  ⟨_,ak, .inr (.inr ⟨by omega,λ w hw=>Ew aU ak (h w hw) (λ cd w' a' aj oD=>⟨λ _=>aj.1,aj.2 a' oD⟩) ha⟩)⟩
theorem apM (aU:o.guard=none) (ak:ops[i]? =some o) (aj:aL i=3) (h:∀ w,Ext w0 w→Bo P n ops o E w λ cd w'=>xT F P n ops Q aL ba cd w'):xT F P n ops Q aL (i::ba) E w0:=λ a ha =>
  ⟨_,ak, .inr (.inr ⟨by omega,λ w hw=>Ew aU ak (h w hw) (λ cd w' a' aj oD=>⟨λ τ=>by omega,aj a' oD⟩) ha⟩)⟩
end
end
section
variable {l:List bC}
def je (W:ae) (l:List bC):Int:=if lV W l≠0 then lV W l else if 1000000≤W.now then 6 else 0
def xl (W:ae) (l:List bC):ae:=uv W (hl W l l.length)
noncomputable def y0 (W:ae) (l:List bC):ae:=oR (xl W l) (ho W l l.length)
noncomputable def pI (W:ae) (l:List bC):ae:=(y0 W l).sA (hW W l l.length)
noncomputable def ik (W:ae) (l:List bC):ae:=if je W l≠0 then ae.zero else {pI W l with now:=(pI W l).now+1}
def oY (W:ae) (l:List bC):List Int:=if je W l≠0 then [] else yY W (hl W l l.length)
noncomputable def oZ (W:ae) (l:List bC):List Int:=if je W l≠0 then [] else rL (xl W l) (ho W l l.length)
noncomputable def mE (W:ae) (l:List bC):List Bool:=if je W l≠0 then [] else (y0 W l).vS (hW W l l.length)
theorem agU {W:ae} (h:je W l≠0):ik W l=ae.zero∧oY W l= []∧oZ W l= []∧mE W l= []:=by
 unfold ik oY oZ mE;simp only [aNd h,and_self]
theorem Pq {W:ae} (h:je W l=0):ik W l= {pI W l with now:=(pI W l).now+1}∧oY W l=yY W (hl W l l.length)∧oZ W l=rL (xl W l) (ho W l l.length)∧mE W l=(y0 W l).vS (hW W l l.length):=by
 have cp:¬ je W l≠0:=by simpa using h
 unfold ik oY oZ mE;simp only [aM4 cp,and_self]
theorem VG {W:ae} (h:je W l=0):lV W l=0∧W.now<1000000∧W.a7=0∧l.length≤100:=by
 unfold je at h;split at h
 ·contradiction
 ·rename_i κ
  have κ:lV W l=0:=by simpa using κ
  split at h
  ·exact nomatch h
  ·exact ⟨κ,by omega,(Vp κ).2,azB κ⟩
theorem anN {W:ae} {l:List dc} (h:W.a7=0) (ay:l.length≤200):W.p6 l=0∧W.sA l=(W.g_ l).1:=by
 have e:W.p6 l=0:=by unfold ae.p6;rw [aM4 (by omega),aM4 (by omega)]
 exact ⟨e,by unfold ae.sA;rw [aNd e]⟩
theorem YC {W:ae} {l:List eN} (h:W.a7=0) (ay:l.length≤200):lL W l=0:=by unfold lL;rw [aM4 (by omega),aM4 (by omega)]
theorem agT {W:ae} (h:je W l=0):lL W (hl W l l.length)=0∧qC (xl W l) (ho W l l.length)=0∧(y0 W l).p6 (hW W l l.length)=0∧Good (xl W l)∧Good (y0 W l)∧Good (pI W l):=by
 obtain ⟨κ,τ,aq,bb⟩:=VG h;obtain ⟨q7,fe,gJ⟩:=Vt W l l.length;have aR:=YC (l:=hl W l l.length) aq (by omega);have g1:Good (xl W l):=(agM aR).right;have a1:=(Km (W:=xl W l) (l:=ho W l l.length) g1.a7 (by omega)).1;have g2:Good (y0 W l):=(av1 a1).1;obtain ⟨cL,iY⟩:=anN (W:=y0 W l) (l:=hW W l l.length) g2.a7 (by omega);refine ⟨aR,a1,cL,g1,g2, ?_⟩;unfold pI;rw [iY];exact g2.g_ _
def Mj (W:ae) (l:List bC) (w:World) (e:Ending) (w':World):Prop :=
 ∃ a' ft bU cc bd cz bM,e= .returned (.tuple #[.agg (ae.cells a' (ik W l)).toArray, .agg #[.slice ft (oY W l).length bU, .slice cc (oZ W l).length bd, .slice cz (mE W l).length bM],γ (je W l)])∧bt w' w.heap.size a' (ik W l)∧
  bz.aM 3 8 w' w.heap.size (Φ.ab ft) ft bU (oY W l)∧bz.aM 3 8 w' w.heap.size (Φ.ab cc) cc bd (oZ W l)∧n1.aM 4 1 w' w.heap.size (Φ.ab cz) cz bM (mE W l)∧
  (∀ q,(q∈Φ.ab ft∨q∈Φ.ab cc∨q∈Φ.ab cz)→q∉bt.cA a')∧Ext w w'
theorem aAc (a:ae.cW) (W:ae) (A:Option Addr) (c:Nat) (l:List bC) (w:World) (b8:ae.Has w a W) (ay:bC.rep.aQ 48 w A c l) (κ:lV W l≠0):
  Calls prog 71 #[.agg ((ae.cells a W).toArray), .slice A l.length c] w (Mj W l w):=by
 have dv:(lV W l == 0)=false:=by simpa using κ
 have ey:(lV W l != 0)=true:=by simpa using κ
 refine cx (n:=62) func71 Z Z Z ?_;refine fa Z Z λ dk bx bm fQ ag=> ?_;have jd:=ag.lt;refine dn p8 Z λ fT dJ bD j' aG=> ?_;have b7:=J bm bD;have qG:=aG.lt;refine dn zY Z λ hX iW b4 rD bJ=> ?_;have cY:=J b7 b4;refine aT Z<|aK Z<| ?_;have ag:=ag.later (J bD b4);refine aa (aB Z (ag.all fg cQ))<|c0 RQ Z (azC _ _ l a W _ (ay.keep cY) (b8.keep cY) κ) λ qO eC=> ?_;have gU:=J cY eC;refine vm Z<|b0 Z Z<|b0 Z Z<|b0 Z Z<|b0 Z Z<|va Z<|va Z<|va Z<|aT Z<|aI<|aK Z<|aa (beq Z Z)<|vm (gy Z dv)<|y2 Z<|y2 Z<|y2 Z<|aa (oV Z Z)<|aJ<|hP Z<| ?_;refine bE<|aI<|aK Z<|gN Z Z<|aJ<|gZ (gy Z ey)<|aF<|aa (v:= .agg #[γ 0,γ 0, .slice none 0 0, .slice none 0 0, .slice none 0 0, .slice none 0 0, .slice none 0 0,γ 0,γ 0]) (hC Z)<|aa (v:= .agg #[.slice none 0 0, .slice none 0 0, .slice none 0 0]) (hC Z)<|vm Z<| ?_;have aG:=aG.later (J b4 eC);refine c9 Z Z aG Z cQ Z Z λ y5 B_ aG=> ?_;have lA:=Ext.mod gU B_ bF;have bJ:=(bJ.later eC).mod B_ aY;refine c9 Z Z bJ Z sB Z Z λ AP Au bJ=> ?_;have nw:=Ext.mod lA Au bF;refine bH Z<|cU<| ?_;have aG:=aG.mod Au aY;refine dS (.cell Z (aG.all fg cQ) (.cell Z (bJ.all M_ sB) (.tmp Z .nil)))<| ?_;have e0:je W l=lV W l:=by unfold je;rw [aNd κ]
 obtain ⟨ky,z2,z3,z4⟩:=agU (W:=W) (l:=l) (by rw [e0];first | exact κ | decide);exact ⟨⟨none,none,none,none,none,0,0,0,0,0⟩,none,0,none,0,none,0,by rw [e0,ky,z2,z3,z4];rfl,by rw [ky];exact bt.zero _ _,by rw [z2];exact Φ.aM.nil _,by rw [z3];exact Φ.aM.nil _,by rw [z4];exact Φ.aM.nil _,λ q I=>by simp [Φ.ab] at I,nw⟩
theorem aAd (a:ae.cW) (W:ae) (A:Option Addr) (c:Nat) (l:List bC) (w:World) (b8:ae.Has w a W) (ay:bC.rep.aQ 48 w A c l) (κ:lV W l=0) (τ:1000000≤W.now):
  Calls prog 71 #[.agg ((ae.cells a W).toArray), .slice A l.length c] w (Mj W l w):=by
 refine cx (n:=62) func71 Z Z Z ?_;refine fa Z Z λ dk bx bm fQ ag=> ?_;have jd:=ag.lt;refine dn p8 Z λ fT dJ bD j' aG=> ?_;have b7:=J bm bD;have qG:=aG.lt;refine dn zY Z λ hX iW b4 rD bJ=> ?_;have cY:=J b7 b4;refine aT Z<|aK Z<| ?_;have ag:=ag.later (J bD b4);refine aa (aB Z (ag.all fg cQ))<|ca RQ Z Z ((agG _ _ l a W _ (ay.keep cY) (b8.keep cY) κ).mono ?_);rintro e AP ⟨aiE,amo,aiF,amp,aiG,amq,rfl,L1,Fa,Fb,kd⟩;refine cF ?_;have nw:=J cY kd;refine vm Z<|b0 Z Z<|b0 Z Z<|b0 Z Z<|b0 Z Z<|va Z<|va Z<|va Z<|aT Z<|aI<|aK Z<|aa (beq Z Z)<|vm Z<|il Z Z Z<|aa (au IQ Z)<|il Z Z Z<| ?_;have ag:=ag.later kd;refine bA Z ag a6 Z<|il Z Z Z<|aa (ld Z Z)<|aa (nY Z Z)<|aJ<| ?_;have S6:(decide (1000000≤W.now))=true:=by exact aNp τ
 refine gZ (by rw [← S6];rfl)<|rg<|aT Z<|aI<|aK Z<|gN Z Z<|aJ<|gZ Z<|aF<|aa (v:= .agg #[γ 0,γ 0, .slice none 0 0, .slice none 0 0, .slice none 0 0, .slice none 0 0, .slice none 0 0,γ 0,γ 0]) (hC Z)<|aa (v:= .agg #[.slice none 0 0, .slice none 0 0, .slice none 0 0]) (hC Z)<|vm Z<| ?_;have aG:=aG.later (J b4 kd);refine c9 Z Z aG Z cQ Z Z λ V2 B' aG=> ?_;have A6:=Ext.mod nw B' bF;have bJ:=(bJ.later kd).mod B' aY;refine c9 Z Z bJ Z sB Z Z λ xr rH bJ=> ?_;have jW:=Ext.mod A6 rH bF;refine bH Z<|cU<| ?_;have aG:=aG.mod rH aY;refine dS (.cell Z (aG.all fg cQ) (.cell Z (bJ.all M_ sB) (.tmp Z .nil)))<| ?_;have e0:je W l=6:=by unfold je;rw [aM4 (by simpa using κ),aNd τ]
 obtain ⟨ky,z2,z3,z4⟩:=agU (W:=W) (l:=l) (by rw [e0];first | exact κ | decide);exact ⟨⟨none,none,none,none,none,0,0,0,0,0⟩,none,0,none,0,none,0,by rw [e0,ky,z2,z3,z4];rfl,by rw [ky];exact bt.zero _ _,by rw [z2];exact Φ.aM.nil _,by rw [z3];exact Φ.aM.nil _,by rw [z4];exact Φ.aM.nil _,λ q I=>by simp [Φ.ab] at I,jW⟩
theorem aAe (a:ae.cW) (W:ae) (A:Option Addr) (c:Nat) (l:List bC) (w:World) (b8:ae.Has w a W) (ay:bC.rep.aQ 48 w A c l) (aC:je W l=0):
  Calls prog 71 #[.agg ((ae.cells a W).toArray), .slice A l.length c] w (Mj W l w):=by
 obtain ⟨κ,τ,aq,bb⟩:=VG aC;obtain ⟨aR,a1,cL,g1,g2,g3⟩:=agT aC;have asF:0≤(pI W l).now∧(pI W l).now≤1000000:=g3.now;refine cx (n:=62) func71 Z Z Z ?_;refine fa Z Z λ dk bx bm fQ ag=> ?_;have jd:=ag.lt;refine dn p8 Z λ fT dJ bD j' aG=> ?_;have b7:=J bm bD;have qG:=aG.lt;refine dn zY Z λ hX iW b4 rD bJ=> ?_;have cY:=J b7 b4;have yV:=bJ.lt;refine aT Z<|aK Z<| ?_;have ag:=ag.later (J bD b4);refine aa (aB Z (ag.all fg cQ))<|ca RQ Z Z ((agG _ _ l a W _ (ay.keep cY) (b8.keep cY) κ).mono ?_);rintro e AP ⟨aiE,amo,aiF,amp,aiG,amq,rfl,L1,Fa,Fb,kd⟩;refine cF ?_;have:=kd.size;have nw:=J cY kd;have Hd:=bZ Fa.lt;have avz:=dL Fa.lt;have ag5:=bZ Fb.lt;have aez:=dL Fb.lt;refine vm Z<|b0 Z Z<|b0 Z Z<|b0 Z Z<|b0 Z Z<|va Z<|va Z<|va Z<|aT Z<|aI<|aK Z<|aa (beq Z Z)<|vm Z<|il Z Z Z<|aa (au IQ Z)<|il Z Z Z<| ?_;have ag:=ag.later kd;refine bA Z ag a6 Z<|il Z Z Z<|aa (ld Z Z)<|aa (nY Z Z)<|aJ<| ?_;have S6:(decide (1000000≤W.now))=false:=by exact aNu (by omega)
 refine hP (by rw [← S6];rfl)<|bE<|aI<|aK Z<|gN Z Z<|aJ<|hP Z<|bE<|aF<|dn zY Z λ V2 aEH fp aIk o9=> ?_;have:=fp.size;have A6:=J nw fp;have aKA:=o9.lt;refine aJ<|aF<| ?_;have ag:=ag.later fp;refine aa (aB Z (ag.all fg cQ))<|vm Z<| ?_;have L1:=L1.later fp;refine ca aoF Z Z ((azR (hl W l (l).length) _ _ a W _ (b8.keep A6) L1.has).mono ?_);rintro e xt ⟨a40,aio,al9,rfl,LL,H4,aGp,ix⟩;refine cF ?_;have:=ix.size;have nx:=J A6 ix;have wH:=dL LL.lt;have Pv:=bZ H4.lt;have Ar:=dL H4.lt;refine vm Z<|b0 Z Z<|b0 Z Z<|b0 Z Z<| ?_;have ag:=ag.later ix;refine st Z Z ag Z cQ Z Z Z λ PF rI ag=> ?_;have:=rI.size;have th:=Ext.mod nx rI bF;refine aa (au Z3 Z)<| ?_;have o9:=(o9.later ix).mod rI aY;refine fM Z Z o9 Z yn Z Z λ EF gj o9=> ?_;have:=gj.size;have l7:=Ext.mod th gj bF;refine aJ<|aF<| ?_;have ag:=ag.mod gj aY;refine aa (aB Z (ag.all fg cQ))<|vm Z<| ?_;have Fa:=((Fa.later (J fp ix)).mod rI (bG avz)).mod gj (bl Hd);have LL:=(LL.mod rI (bG wH)).mod gj (bG wH);refine ca aoG Z Z ((awv a40 (uv W (hl W l (l).length)) _ _ (ho W l (l).length) _ LL.has Fa.has).mono ?_);rintro e EG ⟨ala,aip,ama,rfl,LM,H7,aGq,l0⟩;refine cF ?_;have:=l0.size;have pR:=J l7 l0;have aeF:=dL LM.lt;have Cr:=bZ H7.lt;have D0:=dL H7.lt;refine vm Z<|b0 Z Z<|b0 Z Z<|b0 Z Z<| ?_;have ag:=ag.later l0;refine st Z Z ag Z cQ Z Z Z λ V8 oQ ag=> ?_;have:=oQ.size;have u_:=Ext.mod pR oQ bF;refine aa (au Z4 Z)<| ?_;have o9:=(o9.later l0).mod oQ aY;refine fM Z Z o9 Z yn Z Z λ PI Ax o9=> ?_;have:=Ax.size;have xJ:=Ext.mod u_ Ax bF;refine aJ<|aF<| ?_;have ag:=ag.mod Ax aY;refine aa (aB Z (ag.all fg cQ))<|vm Z<| ?_;have Fb:=(((((Fb.later (J fp ix)).mod rI (bG aez)).mod gj (bl ag5)).later l0).mod oQ (bG aez)).mod Ax (bl ag5);have LM:=(LM.mod oQ (bG aeF)).mod Ax (bG aeF);refine ca aoH Z Z ((anO (hW W l (l).length) _ _ _ ala (oR (uv W (hl W l (l).length)) (ho W l (l).length)) LM.has Fb.has).mono ?_);rintro e V' ⟨Q8,W7,amC,rfl,CW,LS,arI,fr⟩;refine cF ?_;have vd:=J xJ fr;have D1:=dL CW.lt;have J8:=dL LS.lt;have anF:∀ q∈Φ.ab W7,q∈bt.cA Q8→False:=arI;refine vm Z<|b0 Z Z<|b0 Z Z<|b0 Z Z<| ?_;have ag:=ag.later fr;refine st Z Z ag Z cQ Z Z Z λ EI kG ag=> ?_;have jY:=Ext.mod vd kG bF;refine aa (au Z5 Z)<| ?_;have o9:=(o9.later fr).mod kG aY;refine fM Z Z o9 Z Z6 Z Z λ ahx Ce o9=> ?_;have WN:=Ext.mod jY Ce bF;refine aJ<|aF<|aa (au IQ Z)<| ?_;have ag:=ag.mod Ce aY;refine bA Z ag a6 Z<|aa (bad Z Z (ll ((by have I:_∧_:=asF;unfold pI y0 xl at I;omega))))<|aa (au IQ Z)<|fM Z Z ag Z cr Z Z λ ahy wZ ag=> ?_;have Lu:=Ext.mod WN wZ bF;refine aJ<|aI<| ?_;refine ayw [dJ] [(0,0),(1,0),(2,2),(3,3)] [0,1,2,3,4] (by kernel_rfl) (by kernel_rfl) ?_;refine aaF Z Z (λ _ x=>aB Z ((ag.mod x aY).all fg cQ)) Z<| ?_;have o9:=o9.mod wZ aY;refine aaF Z Z (λ _ x=>aB Z ((o9.mod x aY).all M_ sB)) Z<| ?_;have aG:=(((((((((aG.later (J b4 (J kd (J fp ix)))).mod rI aY).mod gj aY).later l0).mod oQ aY).mod Ax aY).later fr).mod kG aY).mod Ce aY).mod wZ aY;refine aqo Z Z Z λ PO jH Q hK=>c9 Z Z (aG.later jH) Z cQ Z Z λ aBb rK aG=>hK _ _ ⟨(Mod.aP jH).trans rK, ?_⟩;have vg:=J Lu jH;have P7:=Ext.mod vg rK bF;have bJ:=(((((((((((bJ.later (J kd (J fp ix))).mod rI aY).mod gj aY).later l0).mod oQ aY).mod Ax aY).later fr).mod kG aY).mod Ce aY).mod wZ aY).later jH).mod rK aY;refine apM Z Z Z λ ahC lW Q hK=>c9 Z Z (bJ.later lW) Z sB Z Z λ VW lQ bJ=>hK _ _ ?_;have Lx:=J P7 lW;have A3:=Ext.mod Lx lQ bF;refine aqn Z Z (λ _=>eV Z) Z<|ap7 λ VX xw=> ?_;have ET:=J A3 xw;refine br<|rt<| ?_;have aG:=((aG.later lW).mod lQ aY).later xw;have bJ:=bJ.later xw;refine dS (.cell Z (aG.all fg cQ) (.cell Z (bJ.all M_ sB) (.tmp Z .nil)))<| ?_;have CW:=(((((((CW.mod kG (bG D1)).mod Ce (bG D1)).mod wZ (bG D1)).later jH).mod rK (bG D1)).later lW).mod lQ (bG D1)).later xw;have H4:=(((((((((((((H4.mod rI (bG Ar)).mod gj (bG Ar)).later l0).mod oQ (bG Ar)).mod Ax (bG Ar)).later fr).mod kG (bG Ar)).mod Ce (bG Ar)).mod wZ (bG Ar)).later jH).mod rK (bG Ar)).later lW).mod lQ (bG Ar)).later xw;have H7:=((((((((((H7.mod oQ (bG D0)).mod Ax (bG D0)).later fr).mod kG (bG D0)).mod Ce (bG D0)).mod wZ (bG D0)).later jH).mod rK (bG D0)).later lW).mod lQ (bG D0)).later xw;have LS:=(((((((LS.mod kG (bG J8)).mod Ce (bG J8)).mod wZ (bG J8)).later jH).mod rK (bG J8)).later lW).mod lQ (bG J8)).later xw;obtain ⟨ky,z2,z3,z4⟩:=Pq aC;have hR:bt VX w.heap.size Q8 (ik W l):=by rw [ky];exact (CW.down (by omega)).Vi Z Z Z Z Z ⟨CW.nums.1,CW.nums.2.1,CW.nums.2.2.1,cI.2 (by show _≤(pI W l).now+1∧(pI W l).now+1≤_;omega)⟩
 exact ⟨Q8,aio,al9,aip,ama,W7,amC,by rw [aC,ky,z2,z3,z4];rfl,hR,by rw [z2];exact H4.down (by omega),by rw [z3];exact H7.down (by omega),by rw [z4];exact LS.down (by omega),λ q I hf=>I.elim (λ I=>by exfalso;(have:=D1 q hf;(have:=Pv q I;omega))) (λ I=>I.elim (λ I=>by exfalso;(have:=D1 q hf;(have:=Cr q I;omega))) (λ I=>anF q I hf)),ET⟩
theorem KP (a:ae.cW) (W:ae) (A:Option Addr) (c:Nat) (l:List bC) (w:World) (b8:ae.Has w a W) (ay:bC.rep.aQ 48 w A c l):Calls prog 71 #[.agg (ae.cells a W).toArray, .slice A l.length c] w (Mj W l w):=by
 by_cases κ:lV W l=0
 ·by_cases τ:1000000≤W.now
  ·exact aAd a W A c l w b8 ay κ τ
  ·exact aAe a W A c l w b8 ay (by unfold je;rw [aM4 (by simpa using κ),aM4 τ])
 ·exact aAc a W A c l w b8 ay κ
end
section
variable {f:av} {c:ai} {r:Int} {k j:Nat}
theorem ak2:dN prog ai.rep 49 98 16:=dN.jz (z:=ai.zero) (k:=2) underlying49 ai.info rfl rfl (by decide) ai.k6
theorem Rb (h:f.cH c=0):f.a7=0∧0≤c.x∧c.x<f.wide∧0≤c.y∧c.y<f.high:=by
 have hc:f.a7=0:=by
  cases hd:decide (f.a7=0) with
  | true=>simpa using hd
  | false=>rw [(av.Mu (by simpa using hd)).1] at h;exact h
 have ak:=av.idx hc (Is hc h);exact ⟨hc,ak.2.2⟩
def xi (f:av) (c:ai) (r:Int):Nat:=(min (f.high - 1) (c.y+r) - max 0 (c.y - r)+1).toNat
def sY (f:av) (c:ai) (r:Int):Nat:=(min (f.wide - 1) (c.x+r) - max 0 (c.x - r)+1).toNat
def seenAt (c:ai) (r:Int) (k j:Nat):ai:=⟨max 0 (c.x - r)+(j:Int),max 0 (c.y - r)+(k:Int)⟩
def KG (f:av) (c n:ai):Bool:=sj f c n || sj f n c
def nj (f:av) (c:ai) (r:Int) (k j:Nat):List ai:=((List.range j).map (seenAt c r k)).filter (KG f c)
def oW (f:av) (c:ai) (r:Int) (k:Nat):List ai:=(List.range k).flatMap λ i=>nj f c r i (sY f c r)
theorem agl (f:av) (c:ai) (r:Int) (k:Nat):oW f c r (k+1)=oW f c r k++nj f c r k (sY f c r):=by unfold oW;rw [aOb,aOs];simp
theorem agi (f:av) (c:ai) (r:Int) (k:Nat):nj f c r k 0= []:=rfl
theorem aza (h:KG f c (seenAt c r k j)=true):nj f c r k (j+1)=nj f c r k j++ [seenAt c r k j]:=by
 unfold nj;rw [aOb,aNx,aN0,aNF,aOf,aN7,aNd h];rfl
theorem ay9 (h:KG f c (seenAt c r k j)=false):nj f c r k (j+1)=nj f c r k j:=by
 unfold nj;rw [aOb,aNx,aN0,aNF,aOf,aN7,aM4 (by rw [h];decide)];simp
theorem agj (f:av) (c:ai) (r:Int) (k j:Nat):(nj f c r k j).length≤j:=by unfold nj;exact aNm (aOw _ _) (by simp)
theorem agk (f:av) (c:ai) (r:Int):∀ k,(oW f c r k).length≤k * sY f c r
 | 0=>aNQ _
 | k+1=>by
  have κ:=agk f c r k;have τ:=agj f c r k (sY f c r);rw [agl,aM6,aOp];omega
def qI (f:av) (c:ai) (r:Int):Int:=if f.cH c≠0 then f.cH c else if r<0∨12<r then 1 else 0
def gF (f:av) (c:ai) (r:Int):List ai:=if qI f c r≠0 then [] else oW f c r (xi f c r)
theorem agm (h:f.cH c=0) (hr:0≤r∧r≤12):qI f c r=0∧gF f c r=oW f c r (xi f c r):=by
 have e:qI f c r=0:=by unfold qI;rw [aM4 (by simpa using h),aM4 (by omega)]
 exact ⟨e,by unfold gF;rw [aM4 (by simpa using e)]⟩
theorem azf (h:¬ f.cH c=0):qI f c r=f.cH c∧gF f c r= []:=by
 have e:qI f c r=f.cH c:=by unfold qI;rw [aNd h]
 exact ⟨e,by unfold gF;rw [e,aNd h]⟩
theorem azg (h:f.cH c=0) (hr:r<0∨12<r):qI f c r=1∧gF f c r= []:=by
 have e:qI f c r=1:=by unfold qI;rw [aM4 (by simpa using h),aNd hr]
 exact ⟨e,by unfold gF;rw [e];rfl⟩
theorem azb (f:av) (c:ai) (r:Int) (A:Option Addr) (MJ:Nat) (w:World) (bL:bz.aQ 8 w A MJ f.places):
  Calls prog 96 #[.agg #[γ f.wide,γ f.high, .slice A f.places.length MJ], .agg #[γ c.x,γ c.y],γ r] w (λ e w'=>∃ A cn,e= .returned (.tuple #[.slice A (gF f c r).length cn,γ (qI f c r)])∧ai.rep.aM 98 16 w' w.heap.size (Φ.ab A) A cn (gF f c r)∧Ext w w'):=by
 refine cx (n:=81) func96 Z Z Z ?_;refine fa Z Z λ dk bx bm fQ ag=> ?_;have jd:=ag.lt;refine jn Z Z λ fT dJ bD j' aG=> ?_;have b7:=J bm bD;refine va Z<|aT Z<|aI<|aF<| ?_;have ag:=ag.later bD;refine aa (aB Z (ag.all hb gD))<|aa (aB Z (aG.all b2 bs))<|c0 pg Z (p_ f c _ _ _ (bL.keep b7)) λ hX gp=> ?_;have cY:=J b7 gp;refine vm Z<|b0 Z Z<|b0 Z Z<|va Z<|aT Z<|aK Z<|gN Z Z<|aJ<| ?_;refine oq Z (λ mi=> ?_) (λ mi=> ?_)
 ·refine aK Z<|va Z<|bH Z<|cU<|ht Z Z Z<| ?_;obtain ⟨aR,a1⟩:=azf (r:=r) mi;exact ⟨none,0,by rw [aR,a1];rfl,by rw [a1];exact Φ.aM.nil _,cY⟩
 ·obtain ⟨Gf,hn⟩:=Rb mi;obtain ⟨uY,qU,s8,s9,Hq,Ll⟩:=av.hg Gf;refine bE<|aI<|aK Z<|fB Z Z<|vm Z<|fS Z Z<|b9 Z (λ hc=>hO (gt hc Z) Z)<|aa (gv Z Z Z Z)<|aJ<| ?_;refine c1 Z (λ tP=> ?_) (λ tP=> ?_)
  ·simp only [cq] at tP;refine aF<|va Z<|bH Z<|cU<|ht Z Z Z<| ?_;obtain ⟨aR,a1⟩:=azg mi (by omega);exact ⟨none,0,by rw [aR,a1];rfl,by rw [a1];exact Φ.aM.nil _,cY⟩
  ·simp only [cq] at tP;have tN:xi f c r≤25∧xi f c r=(min (f.high - 1) (c.y+r) - max 0 (c.y - r)+1).toNat:=by unfold xi;omega
   have b8:sY f c r≤25∧sY f c r=(min (f.wide - 1) (c.x+r) - max 0 (c.x - r)+1).toNat:=by unfold sY;omega
   have JB:∀ k,k≤xi f c r→k * sY f c r≤625:=λ k aj=>aNm (aQT aj (aNk _)) (aNm (aQT tN.1 b8.1) (by decide));refine bE<|aF<|aT Z<|aI<|aF<|aa (au hG Z)<| ?_;have aG:=aG.later gp;refine bA Z aG a6 Z<|vm Z<|aa (iM Z Z fP)<|aa (mx Z Z)<|aT Z<|bT<| ?_;have ag:=ag.later gp;refine gi (λ cJ cu aV=>∃ k:Nat,∃ Ba:Option Addr,∃ Iy:Nat,cu= [(2,γ r),(3, .pointer (a_ bx)),(4, .pointer (a_ dJ)),(6, .slice none 0 0),(7,γ 0),(10, .slice Ba ((oW f c r k).length) Iy),(11,γ ((max 0 (c.y - r))+(k:Int)))]∧cJ=xi f c r - k∧Ext w aV∧aO aV bx [γ f.wide,γ f.high, .slice A f.places.length MJ] 48 (0,0)∧aO aV dJ [γ c.x,γ c.y] 98 (0,0)∧ai.rep.aM 98 16 aV w.heap.size (Φ.ab Ba) Ba Iy (oW f c r k)∧(k≤xi f c r)∧(∀ q∈Φ.ab Ba,q=bx→False)∧(∀ q∈Φ.ab Ba,q=dJ→False)) _ _ ⟨0,none,0,Z,Z,cY,ag,aG,(Φ.aM.nil _),by omega,(λ q I af=>by (simp [Φ.ab] at I)),(λ q I af=>by (simp [Φ.ab] at I))⟩ (eS Z Z Z) ?_;rintro At aDG qO ⟨k,Ba,Iy,rfl,rfl,gU,ag,aG,dI,aj,ans,anu⟩;have ry:=agk f c r k;refine aI<|aK Z<|aa (au aoI Z)<|bA Z ag a6 Z<|aa (iM Z Z fP)<|aa (au hG Z)<|bA Z aG a6 Z<|vm Z<|fl Z Z<|aa (Kp Z Z)<|aa (ble Z Z)<|aJ<| ?_;refine Dc Z (λ S3=> ?_) (λ S3=> ?_)
   ·have nN:=JB k aj;refine bE<|aI<|bT<|aF<|aa (au hE Z)<|bA Z aG a6 Z<|vm Z<|aa (iM Z Z fP)<|aa (mx Z Z)<|aT Z<|bT<| ?_;refine gi (λ cJ cu aV=>∃ j:Nat,∃ Bb:Option Addr,∃ Iz:Nat,cu= [(2,γ r),(3, .pointer (a_ bx)),(4, .pointer (a_ dJ)),(6, .slice none 0 0),(7,γ 0),(10, .slice Bb ((oW f c r k++nj f c r k j).length) Iz),(11,γ ((max 0 (c.y - r))+(k:Int))),(12,γ ((max 0 (c.x - r))+(j:Int))),(34,γ ((max 0 (c.y - r))+(k:Int))),(35, .pointer (some ⟨bx,1,none⟩)),(36,γ f.high),(37,γ (f.high - 1)),(38, .pointer (some ⟨dJ,1,none⟩)),(39,γ c.y),(40,γ r),(41,γ (c.y+r)),(42,γ (min (f.high - 1) (c.y+r))),(43, .bool (decide ((max 0 (c.y - r))+(k:Int)≤min (f.high - 1) (c.y+r)))),(46, .pointer (a_ dJ)),(47,γ c.x),(48,γ r),(49,γ (c.x - r)),(50,γ (max 0 (c.x - r)))]∧cJ=sY f c r - j∧Ext w aV∧aO aV bx [γ f.wide,γ f.high, .slice A f.places.length MJ] 48 (0,0)∧aO aV dJ [γ c.x,γ c.y] 98 (0,0)∧ai.rep.aM 98 16 aV w.heap.size (Φ.ab Bb) Bb Iz (oW f c r k++nj f c r k j)∧(j≤sY f c r)∧(∀ q∈Φ.ab Bb,q=bx→False)∧(∀ q∈Φ.ab Bb,q=dJ→False)) _ _ ⟨0,Ba,Iy,Z,Z,gU,ag,aG,(by rw [agi,aNA];exact dI),by omega,ans,anu⟩ (.cons Z (.cons Z (.cons Z (.cons Z (.cons Z (.cons (by rw [agi,aNA];rfl) (.cons Z (.cons (rE Z) (ih Z))))))))) ?_;rintro Kf aDJ AR ⟨j,Bb,Iz,rfl,rfl,mK,ag,aG,kh,aw,FB,MM⟩;have aya:=ag.lt;have afP:=aG.lt;have ag6:=bZ kh.lt;have nP:=agj f c r k j;refine aI<|aK Z<|aa (au Dm Z)<|bA Z ag a6 Z<|aa (iM Z Z fP)<|aa (au hE Z)<|bA Z aG a6 Z<|vm Z<|fl Z Z<|aa (Kp Z Z)<|aa (ble Z Z)<|aJ<| ?_;refine Dc Z (λ Jm=> ?_) (λ Jm=> ?_)
    ·refine bE<|aI<|bT<|aK Z<|vm Z<|aa (v:= .agg #[γ ((max 0 (c.x - r))+(j:Int)),γ ((max 0 (c.y - r))+(k:Int))]) (hC Z)<|dn sC Z λ ahp aEL Li aIp xR=> ?_;have Lo:=J mK Li;have ayc:=xR.lt;refine c9 Z Z xR Z bs Z Z λ xu ue xR=> ?_;have:=ue.size;have k5:=Ext.mod Lo ue bF;refine aJ<|aF<| ?_;have ag:=(ag.later Li).mod ue aY;refine aa (aB Z (ag.all hb gD))<| ?_;have aG:=(aG.later Li).mod ue aY;refine aa (aB Z (aG.all b2 bs))<|aa (aB Z (xR.all b2 bs))<|c0 Nd Z (Mz f c ((⟨(max 0 (c.x - r))+(j:Int),(max 0 (c.y - r))+(k:Int)⟩:ai)) _ _ _ (bL.keep k5) (by (try dsimp only);omega) (by (try dsimp only);omega)) λ V6 iy=> ?_;have:=iy.size;have CI:=J k5 iy;refine vm Z<| ?_;have ag:=ag.later iy;refine b9 Z (λ hc=>aB Z (ag.all hb gD))<| ?_;have xR:=xR.later iy;refine b9 Z (λ hc=>aB Z (xR.all b2 bs))<| ?_;have aG:=aG.later iy;refine b9 Z (λ hc=>aB Z (aG.all b2 bs))<|s0 Z Nd (λ hc=>fO (gt hc Z) (fO (gt hc Z) (fO (gt hc Z) Z))) (λ hc=>Mz f ((⟨(max 0 (c.x - r))+(j:Int),(max 0 (c.y - r))+(k:Int)⟩:ai)) c _ _ _ (bL.keep CI) (by (try dsimp only);omega) (by (try dsimp only);omega)) λ aA8 lx=> ?_;have:=lx.size;have P6:=J CI lx;refine aa (gv Z Z Z Z)<|aJ<| ?_;refine c1 Z (λ Tb=> ?_) (λ Tb=> ?_)
     ·refine rg<|vm Z<| ?_;have xR:=xR.later lx;refine aa (aB Z (xR.all b2 bs))<|b_ (e:= 98) (cs:= [γ ((max 0 (c.x - r))+(j:Int)),γ ((max 0 (c.y - r))+(k:Int))]) Z (λ _=>by kernel_rfl) Z λ ahr aES qT aIx HG=> ?_;have Hy:=J P6 qT;have aKL:=HG.lt;have kh:=((kh.later Li).mod ue (bl ag6)).later (J iy (J lx qT));refine ap ak2 Φ.c6 kh (aO.fy (R:=ai.rep) (by_:=16) (q:=(⟨(max 0 (c.x - r))+(j:Int),(max 0 (c.y - r))+(k:Int)⟩:ai)) HG ⟨Z,⟨gl,gl⟩⟩ (by decide)) Z Z (by simp only [aM6,aM1,aM5];omega) (by simp only [aM6,aM1,aM5];omega) Hy.size Z λ K6 aiQ amB yQ akH aaR aJE=> ?_;have r5:=Ext.mod Hy yQ (λ q I=>(kh.lt q I).1);refine va Z<|nl<|cl<|br<|rg<|vm Z<|fl Z Z<|va Z<|nl<| ?_;have a1:oW f c r k++nj f c r k (j+1)=oW f c r k++nj f c r k j++ [(⟨(max 0 (c.x - r))+(j:Int),(max 0 (c.y - r))+(k:Int)⟩:ai)]:=by rw [aza Tb,← aNB];rfl
      have ag:=(ag.later (J lx qT)).mod yQ (λ I=>FB _ I rfl);have aG:=(aG.later (J lx qT)).mod yQ (λ I=>MM _ I rfl);exact lT _ _ ⟨j+1,aiQ,amB,Z,Z,r5,ag,aG,(by rw [a1];exact akH),by omega,(gz aaR FB),(gz aaR MM)⟩ (by omega) (.cons Z (.cons Z (.cons Z (.cons Z (.cons Z (.cons (by rw [a1];rfl) (.cons Z (.cons (rE Z) (ih Z)))))))))
     ·refine fZ<|cl<|br<|rg<|vm Z<|fl Z Z<|va Z<|nl<| ?_;have a1:oW f c r k++nj f c r k (j+1)=oW f c r k++nj f c r k j:=by rw [ay9 Tb]
      have ag:=ag.later lx;have aG:=aG.later lx;have kh:=((kh.later Li).mod ue (bl ag6)).later (J iy lx);exact lT _ _ ⟨j+1,Bb,Iz,Z,Z,P6,ag,aG,(by rw [a1];exact kh),by omega,FB,MM⟩ (by omega) (.cons Z (.cons Z (.cons Z (.cons Z (.cons Z (.cons (by rw [a1];rfl) (.cons Z (.cons (rE Z) (ih Z)))))))))
    ·refine ej<|ei<|eU<|eh<|cl<|br<|rg<|vm Z<|fl Z Z<|va Z<|nl<| ?_;have R9:j=sY f c r:=by omega
     have aR:oW f c r (k+1)=oW f c r k++nj f c r k j:=by rw [R9];exact agl f c r k
     exact lT _ _ ⟨k+1,Bb,Iz,Z,Z,mK,ag,aG,(by rw [aR];exact kh),by omega,FB,MM⟩ (by omega) (.cons Z (.cons Z (.cons Z (.cons Z (.cons Z (.cons (by rw [aR];rfl) (eS Z Z Z)))))))
   ·refine ej<|ei<|eU<|eh<|br<|aK Z<|va Z<|bH Z<|ht Z Z Z<| ?_;have mS:k=xi f c r:=by omega
    subst mS;obtain ⟨aR,a1⟩:=agm mi (by omega);exact ⟨Ba,Iy,by rw [aR,a1];rfl,by rw [a1];exact dI,gU⟩
end
theorem anc (A:Option Addr) (len c n:Nat) (w:World) (hn:1≤n):
  Calls prog 81 #[.slice A len c,γ (n:Int)] w (λ e w'=>∃ fe gJ,e= .returned (.func (.func 105) #[] #[.pointer (a_ fe), .pointer (a_ gJ)])∧aO w' fe [.slice A len c] 46 (0,0)∧aO w' gJ [γ (n:Int)] 3 (0,0)∧w.heap.size≤fe∧fe<gJ∧Ext w w'):=by
 refine cx (n:=9) func81 Z Z Z ?_;refine fa Z Z λ dk bx bm fQ ag=> ?_;have jd:=ag.lt;refine jn Z Z λ fT dJ bD j' aG=> ?_;have b7:=J bm bD;refine aT Z<|aI<|aF<|bA Z aG a6 Z<|fB Z Z<|aJ<| ?_;have j6:(decide ((n:Int)<1))=false:=by rw [aM7];omega
 refine hP (by rw [← j6];rfl)<|bE<|aF<|aa (Ko Z Z)<|bH Z<|cZ Z Z<| ?_;have ag:=ag.later bD;exact ⟨bx,dJ,Z,ag,aG,by omega,by omega,b7⟩
theorem anf (q n len c fe gJ:Nat) (A:Option Addr) (w0:World) (hn:1≤n) (hlen:len=q * n) (aGB:len≤c) (qf:c≤9223372036854775807) (m:Nat) (W':aO w0 fe [.slice A len c] 46 (0,0)) (Xa:aO w0 gJ [γ (n:Int)] 3 (0,0)):
  SeqStopsK (jK none) m prog 105 #[.pointer (a_ fe), .pointer (a_ gJ)] (λ k:Fin q=>#[.slice (ez A (k.1 * n+n) (k.1 * n) 1) n n]) (zx fe gJ) (λ xs=>xs=List.finRange q) (λ _=>True) q w0:=by
 intro l jm aDY W af abm aGd aqX ar7;have l8:=W'.Oo (af.block fe W'.lt);have nz:=Xa.Oo (af.block gJ Xa.lt);have yv:C0 W.heap.size jm [] W:=⟨abm,ar7⟩;refine Rd.amM (n:=31) func105 Z Z Z ?_;refine Rd.aI<|Rd.rg<|va Z<|nl<|Rd.br<|Rd.bT<| ?_;refine Rd.gi (λ cJ cu aV=>∃ k:Nat,cu= [(0, .func (.yield l) #[] #[]),(1, .pointer (a_ fe)),(2, .pointer (a_ gJ)),(4,γ (((k * n:Nat):Int)))]∧cJ=q - k∧True∧aO aV fe [.slice A len c] 46 (0,0)∧aO aV gJ [γ (n:Int)] 3 (0,0)∧C0 W.heap.size jm ((List.finRange q).take k) aV∧(k≤q)) _ _ ⟨0,Z,Z,trivial,l8,nz,(yv:C0 W.heap.size jm [] _),by omega⟩ (eS Z Z Z) ?_;rintro wQ HL dk ⟨k,rfl,rfl,dM,l8,nz,yv,aj⟩;refine Rd.aI<|Rd.aI<|Rd.rg<|vm Z<|bA Z l8 fI Z<|aa (dr underlying46 Z)<|fB Z Z<|nl<|Rd.br<| ?_;refine Rd.fH Z (λ oB=> ?_) (λ oB=> ?_)
 ·have Gn:k<q:=Nat.lt_of_mul_lt_mul_right (a:=n) (by omega);have ash:k * n+n≤q * n:=by rw [← aOp];exact aNM _ Gn
  refine Rd.fZ<|Rd.br<|Rd.aI<|Rd.bT<|Rd.aI<| ?_;refine Rd.rd [(0,0),(1,0)] [0,1,2,3,4,5,6] (by kernel_rfl) (by kernel_rfl) ?_;refine cP Z Z nz a6 Z<|cP Z Z l8 fI Z<|bn Z Z<|ax Z (λ _=>ay3 (k * n) underlying46 cr Z Z Z (by omega))<|ax Z (λ _=>dr underlying46 Z)<|ax Z (λ _=>Kp Z Z)<|ax Z (λ _=>eV Z)<|fn λ EH l2=> ?_;refine Rd.br<|Rd.aI<|nI.rg<|nI.im (jA Z) Z<| ?_;have l8:=l8.later l2;refine nI.im (aB Z (l8.one fI Z)) Z<|nI.im (jA Z) Z<|nI.im (jA Z) Z<|nI.im (jA Z) Z<|nI.im (bad Z Z fP) Z<|nI.im (jA Z) Z<|nI.im (jA Z) Z<|nI.im (bad Z Z fP) Z<|nI.im (ay2 (k * n) (k * n+n) n underlying46 cr Z Z Z Z Z (by omega) (by omega) (by omega) (by omega) (by omega)) Z<| ?_;have nz:=nz.later l2;have yv:=yv.later l2;refine nI.aBS Z Z Z (aBT (aqX _ (⟨k,Gn⟩:Fin q) _ yv.at_ (by rw [aM9,aRn];omega)) ?_);rintro e ahO kp;obtain ⟨sk,rfl,κ,τ⟩:=aBW kp;refine ⟨_,Z, ?_⟩
  replace κ:sk=true→C0 W.heap.size jm ((List.finRange q).take k++ [⟨k,Gn⟩]) ahO∧zx fe gJ _ ahO:=λ h=>⟨⟨yv.Q9,(κ h).1⟩,(κ h).2⟩
  refine nI.im (dD Z) Z<|nI.nl<|Rd.br<| ?_;refine Rd.c1 Z (λ Ad=> ?_) (λ Ad=> ?_)
  ·refine Rd.rt<|hq<|Rd.cU<|Ey<|hq<|dS .nil<| ?_;exact ⟨⟨_,Z⟩, .inr ⟨_,trivial,τ (by simpa using Ad)⟩⟩
  ·obtain ⟨aqO,lN⟩:=κ (by simpa using Ad);have l8:=l8.Oo lN.1;have nz:=nz.Oo lN.2;refine Rd.fZ<|Rd.cl<|Rd.br<|Rd.rg<|vm Z<|bA Z nz a6 Z<|fl Z Z<|va Z<|nl<| ?_;exact Rd.lT _ _ ⟨k+1,Z,Z,trivial,l8,nz,(by rw [← apS Gn];exact aqO),by omega⟩ (by omega) (.cons Z (.cons Z (.cons Z (.cons (B6 Z (by rw [aOp];omega)) .nil))))
 ·have Gn:k=q:=Nat.le_antisymm aj (Nat.le_of_mul_le_mul_right (c:=n) (by omega) hn);refine Rd.ej<|Rd.ei<|eU<|Rd.eh<|Rd.ne<|dS .nil<| ?_;exact ⟨⟨_,Z⟩, .inl ⟨_,Z,by have:=yv.at_;rwa [Gn,aNr (by rw [aRn];omega)] at this⟩⟩
section
variable {f:av} {x j:Nat}
theorem XL:dN prog AF 30 5 1:=dN.jz (z:= .int .u8 0) (k:=1) underlying30 atK rfl rfl (by decide) (λ j u h=>ayu j u h)
def G5 (p:Int):UInt8:=([46,35,116,111]:List UInt8).getD p.toNat 0
def sX (f:av) (k j:Nat):List UInt8:=(((f.places.drop (k * f.wide.toNat)).take (k * f.wide.toNat+f.wide.toNat - k * f.wide.toNat)).take j).map G5
def txt (f:av) (pre:List (Fin f.high.toNat)):List UInt8:=pre.flatMap λ k=>sX f k.1 f.wide.toNat++ [10]
theorem agV (f:av) (pre:List (Fin f.high.toNat)) (x:Fin f.high.toNat):txt f (pre++ [x])=txt f pre++sX f x.1 f.wide.toNat++ [10]:=by
 unfold txt;rw [aOs];simp
theorem af9 (f:av) (k:Nat):sX f k 0= []:=rfl
theorem aga (f:av) (k j:Nat):(sX f k j).length≤j:=by unfold sX;rw [aNI,aM9];omega
theorem ane (A:Option Addr) (len c:Nat) (i:Int) (w:World) (ak:1≤i):Calls prog 81 #[.slice A len c,γ i] w (λ e w'=>∃ fe gJ,e= .returned (.func (.func 105) #[] #[.pointer (a_ fe), .pointer (a_ gJ)])∧aO w' fe [.slice A len c] 46 (0,0)∧aO w' gJ [γ (i.toNat:Int)] 3 (0,0)∧w.heap.size≤fe∧fe<gJ∧Ext w w'):=by
 have e:i=(i.toNat:Int):=by omega
 have:=anc A len c i.toNat w (by omega);rw [← e] at this;rw [← e];exact this
theorem av.awy (h:f.a7=0):f.places.length=f.high.toNat * f.wide.toNat:=by
 obtain ⟨uY,qU,s8,s9,Hq,Ll⟩:=av.hg h;have aR:f.wide=(f.wide.toNat:Int):=by omega
 have a1:f.high=(f.high.toNat:Int):=by omega
 rw [aR,a1] at Hq;have:(f.places.length:Int)=((f.high.toNat * f.wide.toNat:Nat):Int):=by rw [Hq,Int.natCast_mul,Int.mul_comm]
 omega
theorem VI (f:av):∀ pre:List (Fin f.high.toNat),(txt f pre).length≤pre.length * (f.wide.toNat+1)
 | []=>aNQ _
 | x::r=>by
  have κ:=VI f r;have τ:=aga f x.1 f.wide.toNat;have e:txt f (x::r)=sX f x.1 f.wide.toNat++ [10]++txt f r:=rfl;rw [e,aM1,aOp];simp only [aM6,aM1,aM5];omega
theorem aAi (f:av) (pre:List (Fin f.high.toNat)) (h:pre.length<f.high.toNat) (uY:1≤f.wide) (qU:f.wide≤40) (s8:1≤f.high) (s9:f.high≤40):(txt f pre).length≤1640∧f.wide.toNat≤40:=by
 have κ:=VI f pre;have τ:pre.length * (f.wide.toNat+1)≤40 * 41:=aQT (by omega) (by omega);omega
theorem axI {n:Nat} (h:∀ p∈f.places,0≤p∧p≤3) (hn:n=f.wide.toNat) (aw:x * n+j<f.places.length) (aGu:j<n):∃ p:Int,((f.places.drop (x * f.wide.toNat)).take (x * f.wide.toNat+f.wide.toNat - x * f.wide.toNat)).getD j 0=p∧0≤p∧p≤3:=by
 subst hn;refine ⟨_,Z, ?_⟩;have e:((f.places.drop (x * f.wide.toNat)).take (x * f.wide.toNat+f.wide.toNat - x * f.wide.toNat)).getD j 0=f.places[x * f.wide.toNat+j]:=by
  rw [aM0,aNK,aNd (by omega),aN6,aM3 aw];rfl
 rw [e];exact h _ (aOg aw)
theorem afy {q:Int} (h:∃ p:Int,q=p∧0≤p∧p≤3):0≤q∧(az [46,35,116,111]).data.toList[q.toNat]? =some (G5 q):=by
 obtain ⟨p,rfl,aC,aq⟩:=h;have:q=0∨q=1∨q=2∨q=3:=by omega
 rcases this with rfl | rfl | rfl | rfl<;>exact ⟨by decide,rfl⟩
theorem agb (aw:j<((f.places.drop (x * f.wide.toNat)).take (x * f.wide.toNat+f.wide.toNat - x * f.wide.toNat)).length):sX f x (j+1)=sX f x j++ [G5 (((f.places.drop (x * f.wide.toNat)).take (x * f.wide.toNat+f.wide.toNat - x * f.wide.toNat)).getD j 0)]:=by
 unfold sX;rw [aNs aw,aNx,aM0,aM3 aw];rfl
def yq (f:av):ByteArray:=if f.a7≠0 then az [] else az (txt f (List.finRange f.high.toNat))
theorem aBB (h:¬ f.a7=0):yq f=az []:=by unfold yq;rw [aNd h]
theorem aBC (h:f.a7=0):yq f=az (txt f (List.finRange f.high.toNat)):=by unfold yq;rw [aM4 (by simpa using h)]
theorem aBA (f:av) (A:Option Addr) (c:Nat) (w:World) (bL:bz.aQ 8 w A c f.places):
  Calls prog 62 #[.agg #[γ f.wide,γ f.high, .slice A f.places.length c]] w (λ e w'=>e= .returned (.tuple #[.string (yq f),γ f.a7])∧Ext w w'):=by
 refine Rd.cx (m:=5) (n:=37) func62 Z Z Z ?_;refine Rd.aI<|Rd.rg<|jn Z Z λ dk bx bm fQ ag=> ?_;have:=bm.size;have jd:=ag.lt;refine va Z<|va Z<|nl<|Rd.br<|Rd.aI<|Rd.aI<|Rd.rg<|aa (aB Z (ag.all hb gD))<|c0 aoJ Z (Sh f A c _ (bL.keep bm)) λ fT ea=> ?_;have:=ea.size;have b7:=J bm ea;refine va Z<|nl<|Rd.br<|Rd.aI<|Rd.rg<|vm Z<|gN Z Z<|nl<|Rd.br<| ?_;refine Rd.oq Z (λ hH=> ?_) (λ hH=> ?_)
 ·refine Rd.aI<|Rd.rg<|vm Z<|va Z<|va Z<|nl<|Rd.br<|Rd.rt<|Rd.cU<|Rd.dS (.tmp Z (.tmp Z .nil))<| ?_;exact ⟨by rw [aBB hH];rfl,b7⟩
 ·obtain ⟨uY,qU,s8,s9,Hq,Ll⟩:=av.hg hH;have tX:=av.kr hH;have hlen:=av.awy hH;refine Rd.fZ<|Rd.br<|Rd.aI<|Rd.rg<|dn aoK Z λ xp zH d_ auh oc=> ?_;have:=d_.size;have iU:=J b7 d_;have afN:=oc.lt;refine nl<|Rd.br<|Rd.aI<|Rd.aI<|Rd.rg<|aa (au tK Z)<| ?_;have ag:=ag.later (J ea d_);refine bA Z ag fI Z<|aa (au Dm Z)<|bA Z ag a6 Z<|ca aoL Z Z ((ane _ _ _ f.wide _ (by omega)).mono ?_);rintro e qN ⟨fe,gJ,rfl,XE,XF,iO,ad5,kN⟩;refine cF ?_;have:=kN.size;have l3:=J iU kN;have nZ:=XE.lt;have Ep:=XF.lt;refine nl<|Rd.br<|Rd.bT<| ?_;have oc:=oc.later kN;refine Rd.bN (enc:=(λ k:Fin f.high.toNat=> .slice (ez A (k.1 * f.wide.toNat+f.wide.toNat) (k.1 * f.wide.toNat) 1) f.wide.toNat f.wide.toNat)) Z aoM (anf f.high.toNat f.wide.toNat f.places.length c fe gJ A _ (by omega) hlen (bL.1) bL.2.1 _ XE XF) (by omega) (by omega) (Ext.bN _) (by decide) Z Z (λ pre W=>∃ ct:Option Addr,∃ co:Nat,aO W zH [.slice ct ((txt f pre).length) co] 30 (0,0)∧AF.aM 5 1 W qN.heap.size (Φ.ab ct) ct co (txt f pre)∧Mod [zH] qN W) (by rintro aLa aEf aEg aEc ⟨ct,co,zi,bW,aB2⟩ OB Jk;exact ⟨ct,co,zi.mod OB (λ I=>(Jk _ I).2 _ _ _ zi),bW.mod OB (λ q I hs=>by obtain ⟨_,_,_,hc⟩:=bW.Rs q I;exact (Jk q hs).2 _ _ _ hc),aB2.md OB (λ q I=> .inr (Jk q I).1)⟩) ⟨none,0,oc,Φ.aM.nil _,Mod.bN _ _⟩ ?_ ?_
  ·intro aHR pre x VV SL asn;obtain ⟨ct,co,zi,bW,Wp⟩:=SL;have wE:∀ q∈ [zH],w.heap.size≤q:=λ q I=>by rw [aMZ.1 I];omega
   have BM:vv qN.heap.size VV VV:=vv.bN _ _;have:=Wp.size;have aKn:=zi.lt;have ag4:=bZ bW.lt;have avy:=dL bW.lt;have hx:=x.2;have JS:x.1 * f.wide.toNat+f.wide.toNat≤f.high.toNat * f.wide.toNat:=by rw [← aOp];exact aNM _ hx
   have T2:=VI f pre;have asW:pre.length<f.high.toNat:=asn;have ach:=aAi f pre asW uY qU s8 s9;refine Rd.bT<|Rd.aI<|Rd.aI<|Rd.rg<|vm Z<|aa (dr underlying46 Z)<|vm Z<|nl<|Rd.br<|Rd.bT<| ?_;refine Rd.gi (λ cJ cu aV=>∃ j:Nat,∃ HD:Option Addr,∃ Ru:Nat,cu= [(2, .string (az [])),(3,γ 0),(5, .pointer (a_ zH)),(6, .slice (ez A (x.1 * f.wide.toNat+f.wide.toNat) (x.1 * f.wide.toNat) 1) f.wide.toNat f.wide.toNat),(20, .slice (ez A (x.1 * f.wide.toNat+f.wide.toNat) (x.1 * f.wide.toNat) 1) f.wide.toNat f.wide.toNat),(21,γ (f.wide.toNat:Int)),(22,γ (j:Int))]∧cJ=f.wide.toNat - j∧Mod [zH] qN aV∧vv qN.heap.size VV aV∧aO aV zH [.slice HD (((txt f pre++sX f x.1 j)).length) Ru] 30 (0,0)∧AF.aM 5 1 aV qN.heap.size (Φ.ab HD) HD Ru (txt f pre++sX f x.1 j)∧(j≤f.wide.toNat)∧(∀ q∈Φ.ab HD,q=zH→False)) _ _ ⟨0,ct,co,Z,Z,Wp,BM,(by rw [af9,aNA];exact zi),(by rw [af9,aNA];exact bW),by omega,(λ q I af=>by (have:=avy q I;omega))⟩ (eS Z Z Z) ?_;rintro Ke ajs EB ⟨j,HD,Ru,rfl,rfl,l5,BM,l9,tx,aw,yh⟩;have:=l5.size;have afO:=l9.lt;have aLq:=bZ tx.lt;have aIU:=dL tx.lt;have as1:=aga f x.1 j;have acn:((f.places.drop (x.1 * f.wide.toNat)).take (x.1 * f.wide.toNat+f.wide.toNat - x.1 * f.wide.toNat)).length=f.wide.toNat:=by rw [aM9,aNE];omega
   refine Rd.aI<|Rd.rg<|fB Z Z<|nl<|Rd.br<|Rd.aI<| ?_;refine Rd.fH Z (λ S7=> ?_) (λ S7=> ?_)
   ·have jt:=axI (f:=f) (j:=j) Ll (x:=x.1) (n:=f.wide.toNat) (by omega) (by omega) (by omega);refine Rd.fZ<|Rd.br<|Rd.aI<|Rd.bT<|Rd.aI<|Rd.rg<|aa (bX j underlying46 cr Z Z (((bL.keep (Ext.mod l3 l5 wE)).chunk (x.1 * f.wide.toNat) (x.1 * f.wide.toNat+f.wide.toNat) (by omega) (by omega)).bw (aZ j (by rw [aM9,aNE];omega))) Z (by omega))<|aa (aB Z (Φ.aQ.dj dA (((bL.keep (Ext.mod l3 l5 wE)).chunk (x.1 * f.wide.toNat) (x.1 * f.wide.toNat+f.wide.toNat) (by omega) (by omega)).cg (aZ j (by rw [aM9,aNE];omega))) (cj (l:=(f.places.drop (x.1 * f.wide.toNat)).take (x.1 * f.wide.toNat+f.wide.toNat - x.1 * f.wide.toNat)) (u:=0) (by rw [aM9,aNE];omega)) Z a6))<|va Z<|nl<|Rd.br<| ?_;refine Rd.rd [(0,0),(3,2),(4,3),(5,3)] [0,1,2,3,4,5] (by kernel_rfl) (by kernel_rfl) ?_;refine cP Z Z l9 RR Z<|bn Z Z<|ax Z (λ _=>KI underlying9 Z Z (afy jt).1 (afy jt).2)<|fW Z Z Z λ Hg f_ Q hK=>b_ (e:= 5) (cs:= [.int .u8 (((G5 (((f.places.drop (x.1 * f.wide.toNat)).take (x.1 * f.wide.toNat+f.wide.toNat - x.1 * f.wide.toNat)).getD j 0)).toNat:Int))]) Z (λ _=>by kernel_rfl) Z λ xr alk jF aup E6=>hK _ _ ⟨J f_ jF, ?_⟩;have:=f_.size;have r4:=l5.trans (Mod.aP f_);have:=jF.size;have jW:=r4.trans (Mod.aP jF);have ayb:=E6.lt;have tx:=tx.later (J f_ jF);have axx:=tx;refine dC Z Z Z λ xt ix Q hK=>ap XL Φ.c6 (tx.later ix) ((aO.fy (R:=AF) (by_:=1) (q:=(G5 (((f.places.drop (x.1 * f.wide.toNat)).take (x.1 * f.wide.toNat+f.wide.toNat - x.1 * f.wide.toNat)).getD j 0))) E6 ⟨Z,trivial⟩ (by decide)).keep ix) Z Z (by simp only [aM6,aM1,aM5];omega) (by simp only [aM6,aM1,aM5];omega) (by have:=ix.size;omega) Z λ PF W4 YQ Cb L' aaQ aJz=>hK _ _ ?_;have:=ix.size;have nx:=jW.trans (Mod.aP ix);have:=Cb.size;have th:=nx.md Cb (λ q I=> .inr ((λ q I=>aNm (by omega) ((tx.later ix).lt q I).1) q I));have VK:=bZ L'.lt;have:=Cb.size;have l9:=(l9.later (J f_ (J jF ix))).mod Cb (λ I=>yh _ I rfl);have axy:=l9;refine dC Z Z Z λ ahs qT Q hK=>st (new:= [.slice W4 ((txt f pre++sX f x.1 j++ [(G5 (((f.places.drop (x.1 * f.wide.toNat)).take (x.1 * f.wide.toNat+f.wide.toNat - x.1 * f.wide.toNat)).getD j 0))]).length) YQ]) Z Z (l9.later qT) Z Z7 Z Z Z λ K5 lR l9=>hK _ _ ?_;have:=qT.size;have Lp:=th.trans (Mod.aP qT);have:=lR.size;have uZ:=Lp.md lR (λ q I=> .inl I);refine fn λ ahu mH=> ?_;have:=mH.size;have Lq:=uZ.trans (Mod.aP mH);refine Rd.cl<|Rd.br<|Rd.rg<|fl Z Z<|vm Z<|nl<| ?_;have dW:=uw (lR) mH;have BM:=(((BM.later (J f_ (J jF ix))).mod Cb (λ q I=>(axx.later ix).Rs q I)).later qT).mod dW (λ q I=>by rw [aMZ.1 I];exact ⟨_,_,_,(axy.later qT)⟩);have l9:=l9.later mH;have L':=(L'.later qT).mod dW (c2 λ q I af=>aNq (aaQ q I) (λ adS=>by (exact yh q adS af)) (λ adS=>by omega));exact Rd.lT _ _ ⟨j+1,W4,YQ,Z,Z,Lq,BM,(by rw [agb (by omega),← aNB];exact l9),(by rw [agb (by omega),← aNB];exact L'),by omega,(gz aaQ yh)⟩ (by omega) (eS Z Z Z)
   ·refine Rd.ej<|Rd.ei<|eU<|Rd.eh<|Rd.br<|Rd.rg<|bA Z l9 RR Z<|b_ (e:= 5) (cs:= [.int .u8 10]) Z (λ _=>by kernel_rfl) Z λ PL Yt kP aef vo=> ?_;have:=kP.size;have ze:=l5.trans (Mod.aP kP);have afT:=vo.lt;have tx:=tx.later kP;have axz:=tx;refine ap XL Φ.c6 tx (aO.fy (R:=AF) (by_:=1) (q:=(10:UInt8)) vo ⟨Z,trivial⟩ (by decide)) Z Z (by simp only [aM6,aM1,aM5];omega) (by simp only [aM6,aM1,aM5];omega) (by omega) Z λ EI W9 YR gS Ii aqw aJI=> ?_;have:=gS.size;have jY:=ze.md gS (λ q I=> .inr ((λ q I=>aNm (by omega) (tx.lt q I).1) q I));have aLs:=bZ Ii.lt;have:=gS.size;have l9:=(l9.later kP).mod gS (λ I=>yh _ I rfl);have axA:=l9;refine st (new:= [.slice W9 ((txt f pre++sX f x.1 j++ [(10:UInt8)]).length) YR]) Z Z l9 Z Z7 Z Z Z λ ahz ug l9=> ?_;have:=ug.size;have HB:=jY.md ug (λ q I=> .inl I);refine nl<|Rd.cl<| ?_;have BM:=((BM.later kP).mod gS (λ q I=>axz.Rs q I)).mod ug (λ q I=>by rw [aMZ.1 I];exact ⟨_,_,_,axA⟩);have Ii:=Ii.mod ug (c2 λ q I af=>aNq (aqw q I) (λ J4=>by (exact yh q J4 af)) (λ J4=>by omega));have asb:j=f.wide.toNat:=by omega
    rw [asb] at l9 Ii;exact λ _ _=>⟨BM,Mod.at4 Wp HB ⟨by omega,by omega⟩ aY aY,⟨W9,YR,(by rw [agV];exact l9),(by rw [agV];exact Ii),HB⟩⟩
  ·intro D aBR aLx aF5 Jk SL aa7;obtain ⟨ct,co,zi,bW,ahR⟩:=SL;have SU:aBR=List.finRange f.high.toNat:=Jk;subst SU;have:=ahR.size;have aB0:=Ext.mod l3 ahR (λ q I=>by rw [aMZ.1 I];omega);refine q4.cl<|q4.br<|q4.aI<|q4.rg<|q4.im (aB Z (zi.one RR Z)) Z<|q4.im (anl underlying30 underlying5 underlying9 bW.has Z) Z<|q4.im (eV Z) Z<|q4.im (eV Z) Z<|q4.nl<|q4.br<|q4.rt<|q4.dS aa7 (.tmp Z (.tmp Z .nil))<| ?_;exact ⟨by rw [aBC hH,hH];rfl,Ext.mod aB0 aa7.un (λ q I=>by rw [aMZ.1 I];omega)⟩
end
section
variable {s:ByteArray} {k:Nat}
theorem ajv:dN prog bz 46 3 8:=dN.jz (z:=γ 0) (k:=1) underlying46 wG rfl rfl (by decide) (λ j u h=>AE j u h)
theorem acy (s:ByteArray) (b:UInt8) (w:World):Calls prog 61 #[.string s, .int .u8 (b.toNat:Int)] w λ e w'=>e= .returned (γ (Lib.indexByte s.data.toList b))∧Ext w w' :=
 (strings_IndexByte s (b.toNat:Int) w).mono λ e w' h=>⟨by rw [h.1];simp,by rw [h.2];exact Ext.bN _⟩
theorem ang (s:ByteArray) (b:UInt8) (w:World):Calls prog 28 #[.string s, .string (az [b])] w λ e w'=>e= .returned (γ ((Lib.countByte s.data.toList b:Nat):Int))∧Ext w w' :=
 (strings_Count_one s b w).mono λ e w' h=>⟨by rw [h.1],by rw [h.2];exact Ext.bN _⟩
theorem Pn (h:k<s.size):s.data.toList[(k:Int).toNat]? =some (s.data.toList.getD k 0):=by
 rw [aN9];exact cj (by rw [aOj];exact h)
theorem acz:∀ (l:List UInt8) (b:UInt8), -1≤Lib.indexByte l b∧Lib.indexByte l b<(l.length:Int)
 | [],b=>⟨aOn _,by show (-1:Int)<0;omega⟩
 | x::l,b=>by
  have:=acz l b;unfold Lib.indexByte;rw [aM1];split
  ·omega
  ·split<;>omega
def ni (l:List UInt8):List Int:=(l.map λ b=>Lib.indexByte ([46,35,116,111]:List UInt8) b).filter λ n=>decide (0≤n)
theorem ayy (l:List UInt8):(ni l).length≤l.length:=by unfold ni;exact aNm (aOw _ _) (by rw [aNI];exact aNk _)
theorem af2 {l:List UInt8} (aj:k<l.length):ni (l.take (k+1))=ni (l.take k)++ [Lib.indexByte ([46,35,116,111]:List UInt8) (l.getD k 0)].filter λ n=>decide (0≤n):=by
 rw [aNs aj];unfold ni;rw [aNx,aN0,aM0,aM3 aj];rfl
theorem ayC (aj:k<s.size) (h:0≤Lib.indexByte ([46,35,116,111]:List UInt8) (s.data.toList.getD k 0)):ni (s.data.toList.take (k+1))=ni (s.data.toList.take k)++ [Lib.indexByte ([46,35,116,111]:List UInt8) (s.data.toList.getD k 0)]:=by
 rw [af2 (by rw [aOj];exact aj),aN7,aNd (aNp h)];rfl
theorem ayA (aj:k<s.size) (h:¬ 0≤Lib.indexByte ([46,35,116,111]:List UInt8) (s.data.toList.getD k 0)):ni (s.data.toList.take (k+1))=ni (s.data.toList.take k):=by
 rw [af2 (by rw [aOj];exact aj),aN7,aM4 (by rw [aNu h];decide)];simp
def pD (s:ByteArray):av:=⟨Lib.indexByte s.data.toList 10,((Lib.countByte s.data.toList 10:Nat):Int),ni s.data.toList⟩
def pC (s:ByteArray):Int:=if ((pD s).a7 != 0 || !decide (yq (pD s)=s))=true then 4 else 0
def pE (s:ByteArray):av:=if ((pD s).a7 != 0 || !decide (yq (pD s)=s))=true then ⟨0,0, []⟩ else pD s
theorem af4 (h:((pD s).a7 != 0 || !decide (yq (pD s)=s))=false):pE s=pD s∧pC s=0:=by unfold pE pC;rw [h];exact ⟨Z,Z⟩
theorem ayB {w w':World} (h:((pD s).a7 != 0 || !decide (yq (pD s)=s))=true) (x:Ext w w'):∃ A c,(Ending.returned (.tuple #[.agg #[γ 0,γ 0, .slice none 0 0],γ 4])= .returned (.tuple #[.agg #[γ (pE s).wide,γ (pE s).high, .slice A (pE s).places.length c],γ (pC s)]))∧bz.aM 3 8 w' w.heap.size (Φ.ab A) A c (pE s).places∧Ext w w':=by
 have aR:pE s=⟨0,0, []⟩:=by unfold pE;rw [aNd h]
 have a1:pC s=4:=by unfold pC;rw [aNd h]
 rw [aR,a1];exact ⟨none,0,Z,Φ.aM.nil _,x⟩
theorem ayz (s:ByteArray) (w:World) (hs:s.size≤17592186044415):
  Calls prog 42 #[.string s] w (λ e w'=>∃ A c,e= .returned (.tuple #[.agg #[γ (pE s).wide,γ (pE s).high, .slice A (pE s).places.length c],γ (pC s)])∧bz.aM 3 8 w' w.heap.size (Φ.ab A) A c (pE s).places∧Ext w w'):=by
 refine cx (n:=46) func42 Z Z Z ?_;refine aF<|dn RS Z λ dk bx bm fQ ag=> ?_;have jd:=ag.lt;refine aT Z<|aK Z<|c0 Z8 Z (acy s (10:UInt8) _) λ fT ea=> ?_;have:=ea.size;have b7:=J bm ea;refine vm Z<|c0 aoO Z (ang s 10 _) λ uD gB=> ?_;have:=gB.size;have jV:=J b7 gB;refine aa (v:= .agg #[γ (Lib.indexByte s.data.toList (10:UInt8)),γ (((Lib.countByte s.data.toList 10:Nat):Int)), .slice none 0 0]) (hC Z)<|dn RS Z λ y3 p3 gp auj Be=> ?_;have mJ:=J jV gp;refine c9 Z Z Be Z gD Z Z λ rW mo Be=> ?_;have hZ:=Ext.mod mJ mo bF;refine aJ<|aI<|aK Z<|aa (B5 underlying9 Z (by omega))<|vm Z<|aJ<|bT<| ?_;have ag:=(ag.later (J ea (J gB gp))).mod mo aY;refine gi (λ cJ cu aV=>∃ k:Nat,∃ ct:Option Addr,∃ co:Nat,cu= [(0, .string s),(2, .pointer (a_ bx)),(3,γ 0),(4, .pointer (a_ p3)),(15,γ (((s).size:Int))),(16,γ (k:Int))]∧cJ=s.size - k∧Ext w aV∧aO aV bx [γ 0,γ 0, .slice none 0 0] 48 (0,0)∧aO aV p3 [γ (Lib.indexByte s.data.toList (10:UInt8)),γ (((Lib.countByte s.data.toList 10:Nat):Int)), .slice ct ((ni (s.data.toList.take k)).length) co] 48 (0,0)∧bz.aM 3 8 aV w.heap.size (Φ.ab ct) ct co (ni (s.data.toList.take k))∧(k≤s.size)∧(∀ q∈Φ.ab ct,q=bx→False)∧(∀ q∈Φ.ab ct,q=p3→False)) _ _ ⟨0,none,0,Z,Z,hZ,ag,Be,(Φ.aM.nil _),by omega,(λ q I af=>by (simp [Φ.ab] at I)),(λ q I af=>by (simp [Φ.ab] at I))⟩ (eS Z Z Z) ?_;rintro Ke ajs EB ⟨k,ct,co,rfl,rfl,l5,ag,hL,bW,aj,FA,yh⟩;have afO:=ag.lt;have ax8:=hL.lt;have as1:=ayy (s.data.toList.take k);have T2:(s.data.toList.take k).length≤k:=aO8 _ _;refine aF<|fB Z Z<|aJ<|aI<| ?_;refine fH Z (λ S7=> ?_) (λ S7=> ?_)
 ·have lg:=acz ([46,35,116,111]:List UInt8) (s.data.toList.getD k 0);refine bE<|aI<|bT<|aK Z<|aT Z<|aK Z<|vm Z<|aa (KI underlying9 Z Z (by omega) (Pn (s:=s) (by omega)))<|c0 Z8 Z (acy (az [46,35,116,111]) (s.data.toList.getD k 0) _) λ Hg f_=> ?_;have:=f_.size;have r4:=J l5 f_;refine aT Z<|aK Z<|aa (ld Z Z)<|aJ<| ?_;refine Dc Z (λ yx=> ?_) (λ yx=> ?_)
  ·refine rg<|aa (au tK Z)<| ?_;have hL:=hL.later f_;refine bA Z hL fI Z<|vm Z<|b_ (e:= 3) (cs:= [γ (Lib.indexByte ([46,35,116,111]:List UInt8) (s.data.toList.getD k 0))]) Z (λ _=>by kernel_rfl) Z λ s4 aEK s7 aIo HF=> ?_;have k4:=J r4 s7;have aKF:=HF.lt;have bW:=bW.later (J f_ s7);refine ap ajv Φ.c6 bW (aO.fy (R:=bz) (by_:=8) (q:=Lib.indexByte ([46,35,116,111]:List UInt8) (s.data.toList.getD k 0)) HF ⟨Z,cI.2 (by have:=lg.2;simp only [aM1,aM5] at this;omega)⟩ (by decide)) Z Z (by simp only [aM1,aM5];omega) (by simp only [aM1,aM5];omega) k4.size Z λ PE aiM amy rI Q3 Sw aJy=> ?_;have A7:=Ext.mod k4 rI (λ q I=>(bW.lt q I).1);refine aa (au tK Z)<| ?_;have hL:=(hL.later s7).mod rI (λ I=>yh _ I rfl);refine fM Z Z hL Z yn Z Z λ V7 qz hL=> ?_;have A8:=Ext.mod A7 qz bF;refine nl<|cl<|eR Z Z Z<| ?_;have aR:ni (s.data.toList.take (k+1))=ni (s.data.toList.take k)++ [Lib.indexByte ([46,35,116,111]:List UInt8) (s.data.toList.getD k 0)]:=ayC (by omega) yx;have ag:=((ag.later (J f_ s7)).mod rI (λ I=>FA _ I rfl)).mod qz aY;have Q3:=Q3.mod qz (c2 λ q I af=>aNq (Sw q I) (λ adQ=>by (exact yh q adQ af)) (λ adQ=>by omega));exact eX ⟨k+1,aiM,amy,Z,Z,A8,ag,(by rw [aR];exact hL),(by rw [aR];exact Q3),by omega,(gz Sw FA),(gz Sw yh)⟩
  ·refine fZ<|cl<|eR Z Z Z<| ?_;have aR:ni (s.data.toList.take (k+1))=ni (s.data.toList.take k):=ayA (by omega) yx;have ag:=ag.later f_;have hL:=hL.later f_;have bW:=bW.later f_;exact eX ⟨k+1,ct,co,Z,Z,r4,ag,(by rw [aR];exact hL),(by rw [aR];exact bW),by omega,FA,yh⟩
 ·refine ej<|ei<|eU<|eh<|br<|aI<|aF<|aa (aB Z (hL.all hb gD))<|c0 aoP Z (aBA (⟨Lib.indexByte s.data.toList (10:UInt8),((Lib.countByte s.data.toList 10:Nat):Int),ni (s.data.toList.take k)⟩:av) _ _ _ bW.has) λ PH xE=> ?_;have tk:=J l5 xE;refine vm Z<|b0 Z Z<|b0 Z Z<|va Z<|aT Z<|aK Z<|gN Z Z<|vm Z<|fS Z Z<|fS Z Z<|b9 Z (λ hc=>Fo underlying9 (gt hc Z) (gt hc Z))<|aa (gv Z Z Z Z)<|aJ<| ?_;refine c1 Z (λ Tf=> ?_) (λ Tf=> ?_)
  ·have mS:(⟨Lib.indexByte s.data.toList (10:UInt8),((Lib.countByte s.data.toList 10:Nat):Int),ni (s.data.toList.take k)⟩:av)=pD s:=by unfold pD;rw [aNr (by rw [aOj];show s.size≤k;omega)]
   refine aF<|aa (v:= .agg #[γ 0,γ 0, .slice none 0 0]) (hC Z)<| ?_;have ag:=ag.later xE;refine c9 Z Z ag Z gD Z Z λ ahu yQ ag=> ?_;have Lq:=Ext.mod tk yQ bF;refine bH Z<|cU<|dS (.cell Z (ag.all hb gD) (.tmp Z .nil))<| ?_;exact ayB (by rw [← mS];exact Tf) Lq
  ·have mS:(⟨Lib.indexByte s.data.toList (10:UInt8),((Lib.countByte s.data.toList 10:Nat):Int),ni (s.data.toList.take k)⟩:av)=pD s:=by unfold pD;rw [aNr (by rw [aOj];show s.size≤k;omega)]
   refine bE<|aF<| ?_;have hL:=hL.later xE;refine aa (aB Z (hL.all hb gD))<| ?_;have ag:=ag.later xE;refine c9 Z Z ag Z gD Z Z λ V9 Cc ag=> ?_;have Lr:=Ext.mod tk Cc bF;refine bH Z<|dS (.cell Z (ag.all hb gD) (.tmp Z .nil))<| ?_;have bW:=(bW.later xE).mod Cc (c2 FA);obtain ⟨r1,r2⟩:=af4 (s:=s) (by rw [← mS];exact Tf);rw [r1,r2];exact ⟨ct,co,by rw [← mS];rfl,by rw [← mS];exact bW,Lr⟩
end
def aLb:av:=⟨3,2, [0,1,0,0,0,0]⟩
section
variable {f:av} {a b c n:ai} {r:Int}
theorem azj (h:rT f a b=0):f.cH a=0∧f.cH b=0:=by
 unfold rT at h;split at h
 ·contradiction
 ·rename_i κ;exact ⟨by simpa using κ,h⟩
theorem azi (h:f.cH a=0) (τ:f.cH b=0):rT f a b=0:=by unfold rT;rw [aM4 (by simpa using h)];exact τ
theorem azk (h:rT f a b=0):Cm f a b=KG f a b:=by unfold Cm;rw [aM4 (by simpa using h)];rfl
theorem ay6 (h:qI f c r=0):f.cH c=0∧0≤r∧r≤12:=by
 unfold qI at h;split at h
 ·contradiction
 ·rename_i κ
  split at h
  ·exact nomatch h
  ·exact ⟨by simpa using κ,by omega⟩
theorem aze (aC:f.cH c=0) (hr:0≤r∧r≤12):n∈gF f c r↔(max 0 (c.x - r)≤n.x∧n.x≤min (f.wide - 1) (c.x+r)∧max 0 (c.y - r)≤n.y∧n.y≤min (f.high - 1) (c.y+r))∧KG f c n=true:=by
 rw [(agm aC hr).2];unfold oW nj;simp only [List.mem_flatMap,aND,aOk,aNn];constructor
 ·rintro ⟨i,ak,⟨j,aw,rfl⟩,af⟩;unfold xi at ak;unfold sY at aw;refine ⟨?_,af⟩;unfold seenAt;simp only;omega
 ·rintro ⟨⟨di,a2,a3,a4⟩,af⟩;refine ⟨(n.y - max 0 (c.y - r)).toNat,by unfold xi;omega,⟨(n.x - max 0 (c.x - r)).toNat,by unfold sY;omega, ?_⟩,af⟩;obtain ⟨x,y⟩:=n;unfold seenAt;simp only at *
  congr 1<;>omega
theorem ald (hc:f.a7=0) (h:0≤n.x∧n.x≤f.wide - 1∧0≤n.y∧n.y≤f.high - 1):f.cH n=0:=by
 refine (av.la hc ?_).1;unfold av.dV;rw [ml h.1 h.2.1,ml h.2.2.1 h.2.2.2];rfl
theorem azh (h:qI f c r=0) (hn:n∈gF f c r):rT f c n=0∧Cm f c n=true:=by
 obtain ⟨aC,hr⟩:=ay6 h;obtain ⟨a,b⟩:=(aze aC hr).1 hn;have e:=azi aC (ald (Rb aC).1 (n:=n) (by omega));exact ⟨e,by rw [azk e];exact b⟩
def av.aJ2 (f:av) (i:Nat):av:= {f with places:=f.places.set i 0}
end
def aFJ:av:=⟨2,2, [0,1,2,3]⟩
section
variable {f:av} {k:Nat} {c n:ai} {r p:Int}
theorem aj5:(prog.info? 4).map (λ i=>(i.zero,i.size,i.bytes))=some (some (.bool false),1,1):=by kernel_rfl
def marks (f:av) (out:List Bool) (l:List ai):List Bool:=l.foldl (λ o c=>o.set (c.y * f.wide+c.x).toNat true) out
theorem Ay (f:av):∀ (l:List ai) (out:List Bool),(marks f out l).length=out.length
 | [],_=>rfl
 | c::l,out=>by show (marks f (out.set _ true) l).length=_;rw [Ay f l,aNj]
theorem av3 {out:List Bool} {l:List ai} (h:k<l.length):marks f out (l.take (k+1))=(marks f out (l.take k)).set ((l.getD k default).y * f.wide+(l.getD k default).x).toNat true:=by
 unfold marks;rw [AI (d:=default) h,aQy];rfl
theorem azd (hn:n∈gF f c r):f.cH n=0:=by
 by_cases h:qI f c r=0
 ·exact (azj (azh h hn).1).2
 ·unfold gF at hn;rw [aNd h] at hn;simp at hn
theorem azc (hn:n∈gF f c r):0≤n.x∧n.x<f.wide∧0≤n.y∧n.y<f.high∧0≤n.y * f.wide∧n.y * f.wide≤1600∧n.y * f.wide+n.x<(f.places.length:Int)∧f.wide≤40:=by
 have aC:=azd hn;obtain ⟨hc,κ,τ,aq,bb⟩:=Rb aC;obtain ⟨uY,qU,s8,s9,Hq,Ll⟩:=av.hg hc;have i:=av.idx hc (Is hc aC);have m1:0≤n.y * f.wide:=aPC aq (by omega);have m2:n.y * f.wide≤40 * 40:=aO4 (by omega) qU (by omega) (by omega);omega
def D2 (W:ae) (p:Int) (o:List Bool) (t:a8):List Bool:=if t.owner=p then marks W.field o (gF W.field t.spot 5) else o
def pG (W:ae) (p:Int) (k:Nat):List Bool:=(W.ah.take k).foldl (D2 W p) (marks W.field (List.replicate W.field.places.length false) (gF W.field (W.bj.getD p.toNat default) 3))
theorem avD (W:ae) (p:Int) (o:List Bool) (t:a8):(D2 W p o t).length=o.length:=by unfold D2;split<;>simp [Ay]
theorem aaB (W:ae) (p:Int):∀ (l:List a8) (o:List Bool),(l.foldl (D2 W p) o).length=o.length
 | [],_=>rfl
 | t::l,o=>by rw [List.foldl_cons,aaB W p l,avD]
theorem G3 (W:ae) (p:Int) (k:Nat):(pG W p k).length=W.field.places.length:=by unfold pG;rw [aaB,Ay,aNz]
theorem agh {W:ae} (h:k<W.ah.length):pG W p (k+1)=D2 W p (pG W p k) (W.ah.getD k default):=by
 unfold pG;rw [AI (d:=default) h,aQy];rfl
theorem ay8 {W:ae} (h:k<W.ah.length) (κ:(W.ah.getD k default).owner=p):pG W p (k+1)=marks W.field (pG W p k) (gF W.field (W.ah.getD k default).spot 5):=by
 rw [agh h];unfold D2;rw [aNd κ]
theorem ay7 {W:ae} (h:k<W.ah.length) (κ:¬ (W.ah.getD k default).owner=p):pG W p (k+1)=pG W p k:=by
 rw [agh h];unfold D2;rw [aM4 κ]
def ks (W:ae) (p:Int):Int:=if W.a7≠0 then W.a7 else if p<0∨(W.bj.length:Int)≤p then 7 else 0
def iQ (W:ae) (p:Int):List Bool:=if ks W p≠0 then [] else pG W p W.ah.length
theorem awl {W:ae} (h:¬ W.a7=0):ks W p=W.a7∧iQ W p= []:=by
 have e:ks W p=W.a7:=by unfold ks;rw [aNd h]
 exact ⟨e,by unfold iQ;rw [e,aNd h]⟩
theorem awm {W:ae} (h:W.a7=0) (hp:p<0∨(W.bj.length:Int)≤p):ks W p=7∧iQ W p= []:=by
 have e:ks W p=7:=by unfold ks;rw [aM4 (by simpa using h),aNd hp]
 exact ⟨e,by unfold iQ;rw [e];rfl⟩
theorem awn {W:ae} (h:W.a7=0) (hp:0≤p∧p<(W.bj.length:Int)):ks W p=0∧iQ W p=pG W p W.ah.length:=by
 have e:ks W p=0:=by unfold ks;rw [aM4 (by simpa using h),aM4 (by omega)]
 exact ⟨e,by unfold iQ;rw [e];rfl⟩
theorem aeI (a:ae.cW) (W:ae) (x:ai) (r:Int) (yb Fp:Nat) (A:Option Addr) (c:Nat) (out:List Bool) (w0:World) (w:World) (b8:ae.Has w0 a W) (jO:Ext w0 w) (kf:aO w yb (ae.cells a W) 52 (0,0)) (bc:aO w Fp [.slice A out.length c] 112 (0,0)) (mV:n1.aM 4 1 w w0.heap.size (Φ.ab A) A c out) (d0:∀ q∈Φ.ab A,q=yb→False) (anm:∀ q∈Φ.ab A,q=Fp→False) (hlen:out.length=W.field.places.length):
  Calls prog 95 #[.agg #[γ x.x,γ x.y],γ r, .pointer (a_ yb), .pointer (a_ Fp)] w (λ e w'=>e= .returned (.tuple #[])∧n1.aM 4 1 w' w0.heap.size (Φ.ab A) A c (marks W.field out (gF W.field x r))∧Mod (Φ.ab A) w w'):=by
 have Hb:=bZ mV.lt;have aue:∀ q∈Φ.ab A,w0.heap.size≤q:=λ q I=>(mV.lt q I).1;refine cx (n:=36) func95 Z Z Z ?_;refine fa Z Z λ dk bx bm fQ ag=> ?_;have dM:=(Mod.bN (Φ.ab A) w).trans (Mod.aP bm);have jd:=ag.lt;refine aJ<|aF<|aa (au p7 Z)<| ?_;have kf:=kf.later bm;refine aa (aB Z (kf.par [γ W.field.wide,γ W.field.high, .slice a.P W.field.places.length a.p] hb gD Z))<|aa (aB Z (ag.all b2 bs))<|vm Z<|ca aoQ Z Z ((azb W.field x r _ _ _ (b8.P.keep (Ext.mod jO dM aue))).mono ?_);rintro e uD ⟨zh,IC,rfl,vC,gB⟩;refine cF ?_;have jV:=dM.trans (Mod.aP gB);have aAz:=bZ vC.lt;have avn:=dL vC.lt;refine vm Z<|b0 Z Z<|b0 Z Z<|va Z<|aT Z<|aK Z<|aa (dr underlying49 Z)<|vm Z<|aJ<|bT<| ?_;have dW:=(J bm gB);have mV:=mV.later dW;have kf:=kf.later gB;have bc:=bc.later dW;refine gi (λ cJ cu aV=>∃ k:Nat,cu= [(2, .pointer (a_ yb)),(3, .pointer (a_ Fp)),(18, .slice zh ((gF W.field x r).length) IC),(19,γ ((((gF W.field x r).length:Nat):Int))),(20,γ (k:Int))]∧cJ=(gF W.field x r).length - k∧Mod (Φ.ab A) w aV∧aO aV yb (ae.cells a W) 52 (0,0)∧aO aV Fp [.slice A out.length c] 112 (0,0)∧ai.rep.aM 98 16 aV dk.heap.size (Φ.ab zh) zh IC (gF W.field x r)∧n1.aM 4 1 aV w0.heap.size (Φ.ab A) A c (marks W.field out ((gF W.field x r).take k))∧(k≤(gF W.field x r).length)∧(∀ q∈Φ.ab A,q=yb→False)∧(∀ q∈Φ.ab A,q=Fp→False)∧(∀ q∈Φ.ab A,q∈Φ.ab zh→False)) _ _ ⟨0,Z,Z,jV,kf,bc,vC,mV,by omega,d0,anm,(λ q I af=>by (have:=avn q af;(have:=Hb q I;omega)))⟩ (eS Z Z Z) ?_;rintro GM ajq y4 ⟨k,rfl,rfl,iz,kf,bc,vC,dI,aj,Y4,Fy,Fz⟩;have:=iz.size;have yV:=kf.lt;have ax7:=bc.lt;have Hc:=bZ vC.lt;have ag4:=bZ dI.lt;have Gt:=Ay W.field ((gF W.field x r).take k) out;have yF:=(vC).has.kr;refine aF<|fB Z Z<|aJ<|aI<| ?_;refine fH Z (λ Ae=> ?_) (λ Ae=> ?_)
 ·obtain ⟨Cf,rM,pA,qD,aI3,aI4,aI5,aI6⟩:=azc (mr (d:=default) (show k<(gF W.field x r).length by omega));refine bE<|aI<|bT<|aF<|aa (bX k underlying49 bs Z Z (vC.has.bw (aZ k)) Z (by omega))<|aa (aB Z (Φ.aQ.jJ wh (vC.has.cg (aZ k)) (cj (l:=gF W.field x r) (u:=default) (by omega)) b2 bs))<|dn sC Z λ y6 Yp fC ad9 xP=> ?_;have l4:=iz.trans (Mod.aP fC);refine c9 Z Z xP Z bs Z Z λ V2 B' xP=> ?_;have A6:=l4.md B' (λ q I=> .inr (by have:=aMZ.1 I;omega));refine aJ<|rg<| ?_;have bc:=(bc.later fC).mod B' aY;refine bA Z bc RT Z<|aa (au hG Z)<|bA Z xP a6 Z<|aa (au p7 Z)<|aa (au Dm Z)<| ?_;have kf:=(kf.later fC).mod B' aY;refine bA Z kf a6 Z<|aa (zM Z Z fP)<|aa (au hE Z)<|bA Z xP a6 Z<|fl Z Z<| ?_;have dI:=(dI.later fC).mod B' (bl ag4);refine aa (bX ((((((gF W.field x r).getD k default).y) * W.field.wide)+(((gF W.field x r).getD k default).x)).toNat) underlying112 Dp Z Z (dI.has.bw (aZ ((((((gF W.field x r).getD k default).y) * W.field.wide)+(((gF W.field x r).getD k default).x)).toNat) (by (try rw [Ay]);omega))) (by omega) (by (try rw [Ay]);omega))<|so (q':=true) (j:=0) (i:=((((((gF W.field x r).getD k default).y) * W.field.wide)+(((gF W.field x r).getD k default).x)).toNat)) dI Φ.c6 (cj (l:=marks W.field out ((gF W.field x r).take k)) (u:=false) (by (try rw [Ay]);omega)) Z Z Z Z (λ _ cs h=>by have xf:=(show _∧_ from h).2;obtain rfl:=Jv h;exact ⟨rfl,trivial⟩) Z Z Dp λ xr rH QZ=> ?_;have jW:=A6.md rH (λ q I=> .inl I);refine nl<|cl<|eR Z Z Z<| ?_;have aR:marks W.field out ((gF W.field x r).take (k+1))=(marks W.field out ((gF W.field x r).take k)).set ((((((gF W.field x r).getD k default).y) * W.field.wide)+(((gF W.field x r).getD k default).x)).toNat) true:=av3 (by omega);have kf:=kf.mod rH (λ I=>Y4 _ I rfl);have bc:=bc.mod rH (λ I=>Fy _ I rfl);have vC:=((vC.later fC).mod B' (bl Hc)).mod rH (gg Fz);exact eX ⟨k+1,Z,Z,jW,kf,bc,vC,(by rw [aR];exact QZ),by omega,Y4,Fy,Fz⟩
 ·refine ej<|ei<|eU<|eh<|ne<|dS .nil<| ?_;have mS:k=(gF W.field x r).length:=by omega
  subst mS;have hF:=dI;rw [aOQ] at hF;exact ⟨Z,hF,iz⟩
theorem awu (a:ae.cW) (W:ae) (p:Int) (w:World) (b8:ae.Has w a W):
  Calls prog 73 #[.agg ((ae.cells a W).toArray),γ p] w (λ e w'=>∃ A c,e= .returned (.tuple #[.slice A (iQ W p).length c,γ (ks W p)])∧n1.aM 4 1 w' w.heap.size (Φ.ab A) A c (iQ W p)∧Ext w w'):=by
 refine cx (n:=55) func73 Z Z Z ?_;refine fa Z Z λ dk bx bm fQ ag=> ?_;have jd:=ag.lt;refine va Z<|aT Z<|aI<|aF<|aa (aB Z (ag.all fg cQ))<|c0 FP Z (Fu a W _ (b8.keep bm)) λ fT ea=> ?_;have:=ea.size;have b7:=J bm ea;refine aT Z<|aK Z<|gN Z Z<|aJ<| ?_;refine oq Z (λ hH=> ?_) (λ hH=> ?_)
 ·refine aK Z<|va Z<|bH Z<|cU<|ht Z Z Z<| ?_;obtain ⟨aR,a1⟩:=awl (p:=p) hH;exact ⟨none,0,by rw [aR,a1];rfl,by rw [a1];exact Φ.aM.nil _,b7⟩
 ·have ar:=Good.um (by simpa using hH);have BZ:=ar.dD;have rv:=av.kr ar.field;refine bE<|aI<|aK Z<|fB Z Z<|vm Z<|fS Z Z<|b9 Z (λ hc=>au sD Z)<| ?_;have ag:=ag.later ea;refine b9 Z (λ hc=>aB (gt hc Z) (ag.one yo Z))<|b9 Z (λ hc=>dr underlying49 (gt hc Z))<|b9 Z (λ hc=>ld (gt hc Z) (gt hc Z))<|aa (gv Z Z Z Z)<|aJ<| ?_;refine c1 Z (λ hT=> ?_) (λ hT=> ?_)
  ·simp only [cq] at hT;refine aF<|va Z<|bH Z<|cU<|ht Z Z Z<| ?_;obtain ⟨aR,a1⟩:=awm hH hT;exact ⟨none,0,by rw [aR,a1];rfl,by rw [a1];exact Φ.aM.nil _,b7⟩
  ·simp only [cq] at hT;refine bE<|aF<|aa (au p7 Z)<|aa (au tK Z)<|bA Z ag fI Z<|aa (dr underlying46 Z)<|D4 (R:=n1) (by_:=1) (B:=w.heap.size) (c:=W.field.places.length) (zv:=(.bool false)) (q:=false) Φ.rm underlying112 aj5 Z Z (λ j u h=>U_ j u h) (λ _=>⟨Z,trivial⟩) Z Z Z (by omega) (by omega) (by omega) λ He q8 ir aui vE=> ?_;have:=ir.size;have r3:=J b7 ir;have AM:=bZ vE.lt;have aev:∀ q∈Φ.ab (a_ q8),q8≤q:=λ q I=>aOT (aMZ.1 I).symm;refine dn aoR Z λ rW vM eC aul nA=> ?_;have hZ:=J r3 eC;refine st (new:= [.slice (a_ q8) W.field.places.length W.field.places.length]) Z Z nA Z Z6 Z Z Z λ EC D' nA=> ?_;have nv:=Ext.mod hZ D' bF;refine aJ<|aF<|aa (Ko Z Z)<|aT Z<|aK Z<|aa (au sD Z)<| ?_;have ag:=(ag.later (J ir eC)).mod D' aY;refine bA Z ag yo Z<|vm Z<|aa (bX p.toNat underlying49 bs Z Z ((b8.B.keep nv).bw (aZ p.toNat)) (by omega) (by omega))<|aa (aB Z (Φ.aQ.jJ wh ((b8.B.keep nv).cg (aZ p.toNat)) (cj (l:=W.bj) (u:=default) (by omega)) b2 bs))<| ?_;have vE:=(vE.later eC).mod D' (bl AM);have anx:∀ q∈Φ.ab (a_ q8),q=bx→False:=λ q I af=>by (have:=aev q I;omega)
   have Rx:∀ q∈Φ.ab (a_ q8),q=vM→False:=λ q I af=>by (have:=AM q I;omega)
   refine Rw Z9 Z Z Z ((aeI a W (W.bj.getD p.toNat default) 3 bx vM _ _ _ w _ b8 nv ag (by simpa [G3] using nA) vE anx Rx (by first | exact G3 _ _ _ | simp only [Ay,aNz])).mono ?_);rintro e Cu ⟨rfl,akx,iP⟩;refine cF ?_;have l6:=Ext.mod nv iP (λ q I=>(vE.lt q I).1);refine aJ<|aI<|aF<|aa (au kk Z)<| ?_;have MN:∀ q∈Φ.ab (a_ q8),q=bx→False:=λ q I af=>by (have:=aev q I;omega)
   have ag:=ag.mod iP (λ I=>MN _ I rfl);refine bA Z ag mh Z<|aa (dr underlying50 Z)<|vm Z<|aJ<|bT<| ?_;have MV:∀ q∈Φ.ab (a_ q8),q=vM→False:=λ q I af=>by (have:=AM q I;omega)
   have nA:=nA.mod iP (λ I=>MV _ I rfl);refine gi (λ cJ cu aV=>∃ k:Nat,cu= [(1,γ p),(4, .slice none 0 0),(5,γ 0),(7, .pointer (a_ vM)),(8, .func (.func 95) #[] #[.pointer (a_ bx), .pointer (a_ vM)]),(39, .slice a.T W.ah.length a.t),(40,γ (W.ah.length:Int)),(41,γ (k:Int))]∧cJ=W.ah.length - k∧Ext w aV∧aO aV bx (ae.cells a W) 52 (0,0)∧aO aV vM [.slice (a_ q8) W.field.places.length W.field.places.length] 112 (0,0)∧n1.aM 4 1 aV w.heap.size (Φ.ab (a_ q8)) (a_ q8) W.field.places.length (pG W p k)∧(k≤W.ah.length)∧(∀ q∈Φ.ab (a_ q8),q=bx→False)∧(∀ q∈Φ.ab (a_ q8),q=vM→False)) _ _ ⟨0,Z,Z,l6,ag,nA,akx,by omega,MN,(λ q I af=>by (have:=AM q I;omega))⟩ (eS Z Z Z) ?_;rintro GN aDM V3 ⟨k,rfl,rfl,xG,ag,nA,dI,aj,MO,MU⟩;have ayc:=ag.lt;have aKH:=nA.lt;have KW:=bZ dI.lt;refine aF<|fB Z Z<|aJ<|aI<| ?_;refine fH Z (λ aq9=> ?_) (λ aq9=> ?_)
   ·refine bE<|aI<|bT<|aF<|aa (bX k underlying50 kl Z Z ((b8.T.keep xG).bw (aZ k)) Z (by omega))<|aa (aB Z (Φ.aQ.jJ js ((b8.T.keep xG).cg (aZ k)) (cj (l:=W.ah) (u:=default) (by omega)) zZ kl))<|dn FQ Z λ EE vN iy aee CP=> ?_;have tj:=J xG iy;refine c9 Z Z CP Z kl Z Z λ uF wY CP=> ?_;have jX:=Ext.mod tj wY bF;refine aJ<|aF<|aa (au BE Z)<|bA Z CP a6 Z<|vm Z<|aa (beq Z Z)<|aJ<| ?_;refine lf Z (λ Te=> ?_) (λ Te=> ?_)
    ·refine rg<|vm Z<|aa (au ri Z)<|aa (aB Z (CP.par [γ ((W.ah.getD k default).spot.x),γ ((W.ah.getD k default).spot.y)] b2 bs Z))<| ?_;have ag:=(ag.later iy).mod wY aY;have nA:=(nA.later iy).mod wY aY;have dI:=(dI.later iy).mod wY (bl KW);have FH:∀ q∈Φ.ab (a_ q8),q=bx→False:=λ q I af=>by (exact MO q I af)
     have anB:∀ q∈Φ.ab (a_ q8),q=vM→False:=λ q I af=>by (exact MU q I af)
     refine Rw Z9 Z Z Z ((aeI a W ((⟨(W.ah.getD k default).spot.x,(W.ah.getD k default).spot.y⟩:ai)) 5 bx vM _ _ _ w _ b8 jX ag (by simpa [G3] using nA) dI FH anB (by first | exact G3 _ _ _ | simp only [Ay,aNz])).mono ?_);rintro e K7 ⟨rfl,akE,oQ⟩;refine cF ?_;have xI:=Ext.mod jX oQ (λ q I=>(dI.lt q I).1);refine nl<|cl<|eR Z Z Z<| ?_;have aR:pG W p (k+1)=marks W.field (pG W p k) (gF W.field ((⟨(W.ah.getD k default).spot.x,(W.ah.getD k default).spot.y⟩:ai)) 5):=ay8 (by omega) Te;have ag:=ag.mod oQ (λ I=>MO _ I rfl);have nA:=nA.mod oQ (λ I=>MU _ I rfl);exact eX ⟨k+1,Z,Z,xI,ag,nA,(by rw [aR];exact akE),by omega,MO,MU⟩
    ·refine fZ<|cl<|eR Z Z Z<| ?_;have aR:pG W p (k+1)=pG W p k:=ay7 (by omega) Te;have ag:=(ag.later iy).mod wY aY;have nA:=(nA.later iy).mod wY aY;have dI:=(dI.later iy).mod wY (bl KW);exact eX ⟨k+1,Z,Z,jX,ag,nA,(by rw [aR];exact dI),by omega,MO,MU⟩
   ·refine ej<|ei<|eU<|eh<|br<|aF<|bA Z nA RT Z<|va Z<|bH Z<|ht Z Z Z<| ?_;have mS:k=W.ah.length:=by omega
    subst mS;obtain ⟨aR,a1⟩:=awn hH hT;exact ⟨_,_,by rw [aR,a1,G3];rfl,by rw [a1];exact dI,xG⟩
end
end Go.Proofs.YthlpmldmhakhaaaGreatDoor
