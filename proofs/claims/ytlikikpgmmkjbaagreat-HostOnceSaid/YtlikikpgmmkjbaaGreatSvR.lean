import Derived.Test.YtlikikpgmmkjbaaGreatOrwZ
set_option linter.unusedVariables false
set_option linter.unusedSimpArgs false
set_option maxRecDepth 100000
set_option maxHeartbeats 4000000
open Go.RowKit
namespace Go.Proofs.YtlikikpgmmkjbaaGreat
open Tryz
abbrev aTe:=@List.flatMap_cons
abbrev aTT:=@List.flatMap_nil
abbrev aV3:=@Option.map_eq_none_iff
section
def x8 (W:ah) (k:Nat):List (Int×Int):=(W.ak.take k).map λ t=>(t.id,t.owner)
theorem aAW {W:ah} {k:Nat} (h:k<W.ak.length):x8 W (k+1)=x8 W k++ [((W.ak.getD k default).id,(W.ak.getD k default).owner)]:=by
 unfold x8;rw [wK (d:=default) h,aR3];rfl
theorem aAY {W:ah} (bB:Good W) {k:Nat} (h:k<W.ak.length):cN (x8 W k) (W.ak.getD k default).id=none:=by
 unfold cN x8;rw [List.find?_map,aV3,aV3,aS1];intro x hx;obtain ⟨i,aq,e⟩:=aSw.1 hx;rw [aRE] at aq;rw [aWH] at e;have:=(aSx.1 bB.IH) i k (by omega) h (by omega);rw [← e,mn h];have τ:=this.1;simp only [Function.comp_apply,aSC];omega
def may (W:ah) (o:aF):Bool:=if o.kind=5 then decide (o.by_<(W.aW.length:Int)) && (o.by_ == o.by_) else (cN (x8 W W.ak.length) o.aQ).isSome && ((cN (x8 W W.ak.length) o.aQ).getD 0 == o.by_)
def dP (W:ah) (l:List aF) (k:Nat):List dk:=(l.take k).flatMap λ o=>if may W o=true then nN o else []
theorem Y_ {W:ah} {l:List aF} {k:Nat} (h:k<l.length) (hm:may W (l.getD k default)=true):dP W l (k+1)=dP W l k++nN (l.getD k default):=by
 unfold dP;rw [wK (d:=default) h,aSZ,aTe,aTT,aR7,aRP hm]
theorem Y9 {W:ah} {l:List aF} {k:Nat} (h:k<l.length) (hm:may W (l.getD k default)=false):dP W l (k+1)=dP W l k:=by
 unfold dP;rw [wK (d:=default) h,aSZ,aTe,aTT,aR7,aRL (by rw [hm];decide),aR7]
theorem ak2 (W:ah) (l:List aF):∀ k,(dP W l k).length≤k
 | 0=>by simp [dP]
 | k+1=>by
  have bD:=ak2 W l k;by_cases h:k<l.length
  ·cases hm:may W (l.getD k default) with
   | true=>rw [Y_ h hm,aRH];have:(nN (l.getD k default)).length≤1:=(by unfold nN;(repeat' split)<;>simp);omega
   | false=>rw [Y9 h hm];omega
  ·have:dP W l (k+1)=dP W l k:=by unfold dP;rw [aR1 (by omega),aR1 (by omega)]
   rw [this];omega
def ep (W:ah) (l:List aF) (k:Nat):List dm:=(l.take k).flatMap λ o=>if may W o=true then nP o else []
theorem Zc {W:ah} {l:List aF} {k:Nat} (h:k<l.length) (hm:may W (l.getD k default)=true):ep W l (k+1)=ep W l k++nP (l.getD k default):=by
 unfold ep;rw [wK (d:=default) h,aSZ,aTe,aTT,aR7,aRP hm]
theorem Zb {W:ah} {l:List aF} {k:Nat} (h:k<l.length) (hm:may W (l.getD k default)=false):ep W l (k+1)=ep W l k:=by
 unfold ep;rw [wK (d:=default) h,aSZ,aTe,aTT,aR7,aRL (by rw [hm];decide),aR7]
theorem ak4 (W:ah) (l:List aF):∀ k,(ep W l k).length≤k
 | 0=>by simp [ep]
 | k+1=>by
  have bD:=ak4 W l k;by_cases h:k<l.length
  ·cases hm:may W (l.getD k default) with
   | true=>rw [Zc h hm,aRH];have:(nP (l.getD k default)).length≤1:=(by unfold nP;(repeat' split)<;>simp);omega
   | false=>rw [Zb h hm];omega
  ·have:ep W l (k+1)=ep W l k:=by unfold ep;rw [aR1 (by omega),aR1 (by omega)]
   rw [this];omega
def eR (W:ah) (l:List aF) (k:Nat):List cn:=(l.take k).flatMap λ o=>if may W o=true then nO o else []
theorem Za {W:ah} {l:List aF} {k:Nat} (h:k<l.length) (hm:may W (l.getD k default)=true):eR W l (k+1)=eR W l k++nO (l.getD k default):=by
 unfold eR;rw [wK (d:=default) h,aSZ,aTe,aTT,aR7,aRP hm]
theorem Y' {W:ah} {l:List aF} {k:Nat} (h:k<l.length) (hm:may W (l.getD k default)=false):eR W l (k+1)=eR W l k:=by
 unfold eR;rw [wK (d:=default) h,aSZ,aTe,aTT,aR7,aRL (by rw [hm];decide),aR7]
theorem ak3 (W:ah) (l:List aF):∀ k,(eR W l k).length≤k
 | 0=>by simp [eR]
 | k+1=>by
  have bD:=ak3 W l k;by_cases h:k<l.length
  ·cases hm:may W (l.getD k default) with
   | true=>rw [Za h hm,aRH];have:(nO (l.getD k default)).length≤1:=(by unfold nO;(repeat' split)<;>simp);omega
   | false=>rw [Y' h hm];omega
  ·have:eR W l (k+1)=eR W l k:=by unfold eR;rw [aR1 (by omega),aR1 (by omega)]
   rw [this];omega
theorem ak5 (W:ah) (l:List aF) (k:Nat):(dP W l k).length≤k∧(ep W l k).length≤k∧(eR W l k).length≤k:=⟨ak2 W l k,ak4 W l k,ak3 W l k⟩
theorem ak6 (A:Option Addr) (c:Nat) (l:List aF) (rG:ah.b5) (W:ah) (w:World) (az:aF.rep.aJ 48 w A c l) (bV:ah.Has w rG W):
  Calls prog 60 #[.slice A l.length c, .agg ((ah.cells rG W).toArray)] w (λ e w'=>∃ gX b1 cq c1 cZ c2,((hC l≠0∧e= .returned (.tuple #[.slice none 0 0, .slice none 0 0, .slice none 0 0, .int .i64 (hC l)]))∨(hC l=0∧W.bo≠0∧e= .returned (.tuple #[.slice none 0 0, .slice none 0 0, .slice none 0 0, .int .i64 W.bo]))∨(hC l=0∧W.bo=0∧e= .returned (.tuple #[.slice gX (dP W l l.length).length b1, .slice cq (ep W l l.length).length c1, .slice cZ (eR W l l.length).length c2, .int .i64 0])∧dk.rep.aD 223 16 w' w.heap.size (κ.ae gX) gX b1 (dP W l l.length)∧dm.rep.aD 225 24 w' w.heap.size (κ.ae cq) cq c1 (ep W l l.length)∧cn.rep.aD 178 40 w' w.heap.size (κ.ae cZ) cZ c2 (eR W l l.length)))∧Ext w w'):=by
 have oc:=az.ez;refine ch (n:=82) func60 Z Z Z ?_;refine aj<|cB Z Z Z Z λ cv bJ a7 ee ab=> ?_;have:=a7.size;have bg:=γ (Ext.bF w) a7;have ei:=ab.lt;refine va Z<|va Z<|va Z<|va Z<|ai<|aA<|aj<|vm Z<|ca UX Z Z ((Yl _ _ l _ (az.keep bg)).mono ?_);rintro e eK ⟨rfl,cG⟩;refine ⟨_,Z, ?_⟩;have:=cG.size;have bQ:=γ bg cG;refine va Z<|ai<|aj<|vm Z<|J (bne Z Z)<|ai<| ?_;refine e1 Z (λ kL=> ?_) (λ kL=> ?_)
 ·refine aj<|vm Z<|va Z<|va Z<|va Z<|va Z<|ai<|rt<|bT<|bb (.tmp Z (.tmp Z (.tmp Z (.tmp Z .nil))))<| ?_;exact ⟨none,0,none,0,none,0, .inl ⟨kL,Z⟩,bQ⟩
 ·obtain ⟨awv,_⟩:=FQ (by simpa using kL);refine bt<|aA<|aj<| ?_;have ab:=ab.later cG;refine J (ao Z (ab.all du cf))<|ca Hm Z Z ((CA rG W _ (bV.keep bQ)).mono ?_);rintro e BG ⟨rfl,c'⟩;refine ⟨_,Z, ?_⟩;have:=c'.size;have nd:=γ bQ c';refine va Z<|ai<|aj<|vm Z<|J (bne Z Z)<|ai<| ?_;refine e1 Z (λ ix=> ?_) (λ ix=> ?_)
  ·refine aj<|vm Z<|va Z<|va Z<|va Z<|va Z<|ai<|rt<|bT<|bb (.tmp Z (.tmp Z (.tmp Z (.tmp Z .nil))))<| ?_;exact ⟨none,0,none,0,none,0, .inr (.inl ⟨by simpa using kL,ix,rfl⟩),nd⟩
  ·have bB:=Good.Bx (by simpa using ix);have Fg:=bB.dZ;have QJ:=bB.kq;refine bt<|aj<|Yi Z λ u' sv l8 ayQ abh=> ?_;have:=l8.size;have jW:=γ nd l8;have akd:=abh.lt;refine va Z<|ai<|aA<|aj<|J (av kI Z)<| ?_;have ab:=ab.later (γ c' l8);refine J (ao Z (ab.one mM Z))<|J (cA underlying26 Z)<|vm Z<|ai<|bM<| ?_;refine e8 (λ cm cl aU=>∃ k:Nat,cl= [(0, .slice A l.length c),(3, .pointer (some ⟨bJ,0,none⟩)),(4, .slice none 0 0),(5, .slice none 0 0),(6, .slice none 0 0),(7, .int .i64 0),(10, .map (some sv)),(30, .slice rG.T W.ak.length rG.t),(31, .int .i64 (W.ak.length:Int)),(32, .int .i64 (k:Int))]∧cm=W.ak.length - k∧Ext w aU∧aR aU bJ (ah.cells rG W) 28 (0,0)∧pD aU sv (x8 W k)∧(k≤W.ak.length)) _ _ ⟨0,Z,Z,jW,ab,abh,by omega⟩ (.cons Z (.cons Z (.cons Z (.cons Z (.cons Z (.cons Z (.cons Z (.cons Z (.cons Z (.cons (bZ Z (by first | omega | rfl | (simp<;>omega))) .nil)))))))))) ?_;rintro lD aG8 yk ⟨k,rfl,rfl,ke,ab,gQ,ar⟩;have:=ke.size;have aBU:=ab.lt;have MP:=gQ.lt;refine aj<|J (blt Z Z)<|ai<|aA<| ?_;refine eg Z (λ avl=> ?_) (λ avl=> ?_)
   ·refine bt<|aA<|bM<|aj<|J (b' k underlying26 lU Z Z ((bV.T.keep ke).bR (ba k)) Z (by omega))<|J (ao Z (κ.aJ.ho j9 ((bV.T.keep ke).cu (ba k)) (dv (l:=W.ak) (u:=default) (by omega)) CN lU))<|al Z KG Z Z λ BK acd dc aiR wY=> ?_;have:=dc.size;have ph:=γ ke dc;have aBY:=wY.lt;refine st (new:= [.int .i64 ((W.ak.getD k default).id), .int .i64 ((W.ak.getD k default).owner), .int .i64 ((W.ak.getD k default).kind), .int .i64 ((W.ak.getD k default).spot.x), .int .i64 ((W.ak.getD k default).spot.y), .int .i64 ((W.ak.getD k default).c0), .int .i64 ((W.ak.getD k default).load)]) Z Z wY Z lU Z Z Z λ BL uW wY=> ?_;have:=uW.size;have k2:=Ext.mod ph uW bu;refine ai<|rg<|vm Z<|J (av Hn Z)<|J (ao Z (wY.one bc Z))<|J (av EK Z)<|J (ao Z (wY.one bc Z))<| ?_;have gQ:=gQ.later dc;have gQ:=gQ.mod uW aO;refine mu underlying167 underlying3 gQ (aAY bB (by omega)) Z Z Z λ Nj p9 gQ=> ?_;have:=p9.size;have yw:=Ext.mod k2 p9 bu;refine nl<|b0<|aV<|rg<|J (bad Z Z (bE (by omega)))<|vm Z<|nl<| ?_;have a_:x8 W (k+1)=x8 W k++ [((W.ak.getD k default).id,(W.ak.getD k default).owner)]:=aAW (by omega);have ab:=ab.later dc;have ab:=ab.mod uW aO;have ab:=ab.mod p9 aO;exact c6 _ _ ⟨k+1,Z,Z,yw,ab,(by rw [a_];exact gQ),by omega⟩ (by omega) (.cons Z (.cons Z (.cons Z (.cons Z (.cons Z (.cons Z (.cons Z (.cons Z (.cons Z (.cons (bZ Z (by first | omega | rfl | (simp<;>omega))) .nil))))))))))
   ·refine dH<|dG<|ef<|dF<|aV<|aj<|al Z asr Z Z λ I9 ur qs aMq aaH=> ?_;have:=qs.size;have vt:=γ ke qs;have aOT:=aaH.lt;refine ai<|aA<|aj<|vm Z<|J (cA underlying44 Z)<|vm Z<|ai<|bM<| ?_;have k8:k=W.ak.length:=by omega
    subst k8;have ab:=ab.later qs;have gQ:=gQ.later qs;refine e8 (λ cm cl aU=>∃ j:Nat,∃ gX:Option Addr,∃ b1:Nat,∃ cq:Option Addr,∃ c1:Nat,∃ cZ:Option Addr,∃ c2:Nat,cl= [(3, .pointer (some ⟨bJ,0,none⟩)),(4, .slice none 0 0),(5, .slice none 0 0),(6, .slice none 0 0),(7, .int .i64 0),(10, .map (some sv)),(13, .pointer (some ⟨ur,0,none⟩)),(42, .slice A l.length c),(43, .int .i64 (l.length:Int)),(44, .int .i64 (j:Int))]∧cm=l.length - j∧Ext w aU∧aR aU bJ (ah.cells rG W) 28 (0,0)∧pD aU sv (x8 W W.ak.length)∧aR aU ur [.slice gX ((dP W l j).length) b1, .slice cq ((ep W l j).length) c1, .slice cZ ((eR W l j).length) c2] 169 (0,0)∧dk.rep.aD 223 16 aU w.heap.size (κ.ae gX) gX b1 (dP W l j)∧dm.rep.aD 225 24 aU w.heap.size (κ.ae cq) cq c1 (ep W l j)∧cn.rep.aD 178 40 aU w.heap.size (κ.ae cZ) cZ c2 (eR W l j)∧(j≤l.length)∧(∀ q∈κ.ae gX,q=bJ→False)∧(∀ q∈κ.ae gX,q=sv→False)∧(∀ q∈κ.ae gX,q=ur→False)∧(∀ q∈κ.ae cq,q=bJ→False)∧(∀ q∈κ.ae cq,q=sv→False)∧(∀ q∈κ.ae cq,q=ur→False)∧(∀ q∈κ.ae cq,q∈κ.ae gX→False)∧(∀ q∈κ.ae cZ,q=bJ→False)∧(∀ q∈κ.ae cZ,q=sv→False)∧(∀ q∈κ.ae cZ,q=ur→False)∧(∀ q∈κ.ae cZ,q∈κ.ae gX→False)∧(∀ q∈κ.ae cZ,q∈κ.ae cq→False)) _ _ ⟨0,none,0,none,0,none,0,Z,Z,vt,ab,gQ,aaH,(κ.aD.nil _),(κ.aD.nil _),(κ.aD.nil _),by omega,(λ q I Φ=>by (simp [κ.ae] at I)),(λ q I Φ=>by (simp [κ.ae] at I)),(λ q I Φ=>by (simp [κ.ae] at I)),(λ q I Φ=>by (simp [κ.ae] at I)),(λ q I Φ=>by (simp [κ.ae] at I)),(λ q I Φ=>by (simp [κ.ae] at I)),(λ q I Φ=>by (simp [κ.ae] at I)),(λ q I Φ=>by (simp [κ.ae] at I)),(λ q I Φ=>by (simp [κ.ae] at I)),(λ q I Φ=>by (simp [κ.ae] at I)),(λ q I Φ=>by (simp [κ.ae] at I)),(λ q I Φ=>by (simp [κ.ae] at I))⟩ (.cons Z (.cons Z (.cons Z (.cons Z (.cons Z (.cons Z (.cons Z (.cons Z (.cons Z (.cons (bZ Z (by first | omega | rfl | (simp<;>omega))) .nil)))))))))) ?_;rintro nJ aHk Nt ⟨j,gX,b1,cq,c1,cZ,c2,rfl,rfl,qx,ab,gQ,bm,ju,jv,jw,ay,He,Hf,AK,xr,nu,rL,uE,n7,n8,CG,AL,Pr⟩;have:=qx.size;have aki:=ab.lt;have RI:=gQ.lt;have akj:=bm.lt;have Sm:=λ q I=>(ju.lt q I).2;have sx:=λ q I=>(jv.lt q I).2;have Nf:=λ q I=>(jw.lt q I).2;have tj:=ak5 W l j;refine aj<|J (blt Z Z)<|ai<|aA<| ?_;refine eg Z (λ Wo=> ?_) (λ Wo=> ?_)
    ·have Ba:=aF.mj az _ (ih (d:=default) (show j<l.length by omega));refine bt<|aA<|bM<|aj<|J (b' j underlying44 dN Z Z ((az.keep qx).bR (ba j)) Z (by omega))<|J (ao Z (κ.aJ.ho CX ((az.keep qx).cu (ba j)) (dv (l:=l) (u:=default) (by omega)) hN dN))<|al Z KA Z Z λ Ga ape iF ayY nX=> ?_;have:=iF.size;have vx:=γ qx iF;have aB9:=nX.lt;refine st (new:= [.int .i64 ((l.getD j default).by_), .int .i64 ((l.getD j default).kind), .int .i64 ((l.getD j default).aQ), .int .i64 ((l.getD j default).spot.x), .int .i64 ((l.getD j default).spot.y), .int .i64 ((l.getD j default).what)]) Z Z nX Z dN Z Z Z λ aEX iy nX=> ?_;have:=iy.size;have Ju:=Ext.mod vx iy bu;refine ai<|aj<|vm Z<|J (av CH Z)<|J (ao Z (nX.one bc Z))<| ?_;have gQ:=gQ.later iF;have gQ:=gQ.mod iy aO;refine J (lk underlying167 underlying3 PO gQ Z Z)<|vm Z<|J (ex Z Z)<|J (ex Z Z)<|va Z<|va Z<|ai<|aA<|aj<|J (av pP Z)<|J (ao Z (nX.one bc Z))<|J (beq Z Z)<|ai<| ?_;refine i' Z (λ v_=> ?_) (λ v_=> ?_)
     ·refine rd [(1,0),(3,0),(5,0)] [0,1,2,3,4,5,6,7,8,9] (by kernel_rfl) (by kernel_rfl) ?_;refine au Z (λ _=>av s3 Z)<|bH Z (λ _ x=>ao Z ((nX.later x).one bc Z))<|au Z (λ _=>av s3 Z)<|bH Z (λ _ x=>ao Z ((nX.later x).one bc Z))<|au Z (λ _=>av uH Z)<| ?_;have ab:=ab.later iF;have ab:=ab.mod iy aO;refine bH Z (λ _ x=>ao Z ((ab.later x).one zd Z))<|au Z (λ _=>cA underlying25 Z)<|au Z (λ _=>blt Z Z)<|au Z (λ _=>fg Z)<|au Z (λ _=>fg Z)<|fn λ Gb dX=> ?_;have:=dX.size;have kf:=γ Ju dX;refine aV<|aj<|vm Z<|vm Z<|bp Z Z Z Z (λ hc=>aM Z) Z<|bp Z Z Z Z (λ hc=>av s3 Z) Z<| ?_;have nX:=nX.later dX;refine bp Z Z Z Z (λ hc=>ao (gt hc Z) (nX.one bc Z)) Z<|bp Z Z Z Z (λ hc=>beq (gt hc Z) (gt hc Z)) Z<|J (e3 Z Z Z Z)<|ai<| ?_;refine dJ Z (λ EZ=> ?_) (λ EZ=> ?_)
      ·have sb:may W (l.getD j default)=true:=by unfold may;rw [aRP v_];rw [← EZ]
       refine rg<|J (ao Z (nX.all hN dN))<| ?_;have bm:=bm.later iF;have bm:=bm.mod iy aO;have bm:=bm.later dX;have ju:=ju.later iF;have ju:=ju.mod iy (bL Sm);have ju:=ju.later dX;have jv:=jv.later iF;have jv:=jv.mod iy (bL sx);have jv:=jv.later dX;have jw:=jw.later iF;have jw:=jw.mod iy (bL Nf);have jw:=jw.later dX;have auM:∀ q∈(ur::(κ.ae gX++(κ.ae cq++κ.ae cZ))),w.heap.size≤q:=by
        intro q I;simp only [aRW,aRR] at I;rcases I with I | I | I | I
        ·omega
        ·exact (ju.lt q I).1
        ·exact (jv.lt q I).1
        ·exact (jw.lt q I).1
       refine ca ad6 Z Z ((ab3 (l.getD j default) w ur _ _ _ _ _ _ _ _ _ _ kf Ba bm ju jv jw (λ q I Φ=>by (exact AK q I Φ)) (λ q I Φ=>by (exact rL q I Φ)) (λ q I Φ=>by (exact CG q I Φ)) (λ q I Φ=>by (exact uE q I Φ)) (λ q I Φ=>by (exact AL q I Φ)) (λ q I Φ=>by (exact Pr q I Φ)) (by omega) (by omega) (by omega)).mono ?_);rintro e ZL ⟨am9,aqa,ana,aqb,anb,aqc,rfl,D3,abR,abS,abT,arY,arZ,ar0,arO,arP,arQ,ae3,ae4,ae5,kp⟩;refine ⟨_,Z, ?_⟩;have:=kp.size;have Gw:=Ext.mod kf kp auM;have aQo:=λ q I=>(abR.lt q I).2;have aEb:=λ q I=>(abS.lt q I).2;have aQp:=λ q I=>(abT.lt q I).2;refine nl<|b0<|aV<|rg<|J (bad Z Z (bE (by omega)))<|vm Z<|nl<| ?_;have bj:dP W l (j+1)=dP W l j++nN (l.getD j default):=Y_ (by omega) sb;have cV:ep W l (j+1)=ep W l j++nP (l.getD j default):=Zc (by omega) sb;have jK:eR W l (j+1)=eR W l j++nO (l.getD j default):=Za (by omega) sb;have ab:=ab.later dX;have aAn:bJ∉(ur::(κ.ae gX++(κ.ae cq++κ.ae cZ))):=by
        intro I;simp only [aRW,aRR] at I;rcases I with I | I | I | I
        ·omega
        ·exact (λ q (τ:q∈κ.ae gX) (aa:q=bJ)=>show False by (exact He q τ aa)) _ I Z
        ·exact (λ q (τ:q∈κ.ae cq) (aa:q=bJ)=>show False by (exact xr q τ aa)) _ I Z
        ·exact (λ q (τ:q∈κ.ae cZ) (aa:q=bJ)=>show False by (exact n7 q τ aa)) _ I Z
       have ab:=ab.mod kp aAn;have gQ:=gQ.later dX;have aAo:sv∉(ur::(κ.ae gX++(κ.ae cq++κ.ae cZ))):=by
        intro I;simp only [aRW,aRR] at I;rcases I with I | I | I | I
        ·omega
        ·exact (λ q (τ:q∈κ.ae gX) (aa:q=sv)=>show False by (exact Hf q τ aa)) _ I Z
        ·exact (λ q (τ:q∈κ.ae cq) (aa:q=sv)=>show False by (exact nu q τ aa)) _ I Z
        ·exact (λ q (τ:q∈κ.ae cZ) (aa:q=sv)=>show False by (exact n8 q τ aa)) _ I Z
       have gQ:=gQ.mod kp aAo;exact c6 _ _ ⟨j+1,am9,aqa,ana,aqb,anb,aqc,Z,Z,Gw,ab,gQ,(by rw [bj,cV,jK];exact D3),(by rw [bj];exact abR),(by rw [cV];exact abS),(by rw [jK];exact abT),by omega,(λ q I Φ=>by (exact aRO (ae3 q I) (λ LY=>by (exact He q LY Φ)) (λ LY=>by omega))),(λ q I Φ=>by (exact aRO (ae3 q I) (λ LZ=>by (exact Hf q LZ Φ)) (λ LZ=>by omega))),(λ q I Φ=>by (exact arY q I Φ)),(λ q I Φ=>by (exact aRO (ae4 q I) (λ C9=>by (exact xr q C9 Φ)) (λ C9=>by omega))),(λ q I Φ=>by (exact aRO (ae4 q I) (λ L0=>by (exact nu q L0 Φ)) (λ L0=>by omega))),(λ q I Φ=>by (exact arZ q I Φ)),(λ q I Φ=>by (exact arO q I Φ)),(λ q I Φ=>by (exact aRO (ae5 q I) (λ L1=>by (exact n7 q L1 Φ)) (λ L1=>by omega))),(λ q I Φ=>by (exact aRO (ae5 q I) (λ L2=>by (exact n8 q L2 Φ)) (λ L2=>by omega))),(λ q I Φ=>by (exact ar0 q I Φ)),(λ q I Φ=>by (exact arP q I Φ)),(λ q I Φ=>by (exact arQ q I Φ))⟩ (by omega) (.cons Z (.cons Z (.cons Z (.cons Z (.cons Z (.cons Z (.cons Z (.cons Z (.cons Z (.cons (bZ Z (by first | omega | rfl | (simp<;>omega))) .nil))))))))))
      ·have sb:may W (l.getD j default)=false:=by unfold may;rw [aRP v_];rw [← EZ]
       refine e9<|b0<|aV<|rg<|J (bad Z Z (bE (by omega)))<|vm Z<|nl<| ?_;have bj:dP W l (j+1)=dP W l j:=Y9 (by omega) sb;have cV:ep W l (j+1)=ep W l j:=Zb (by omega) sb;have jK:eR W l (j+1)=eR W l j:=Y' (by omega) sb;have ab:=ab.later dX;have gQ:=gQ.later dX;have bm:=bm.later iF;have bm:=bm.mod iy aO;have bm:=bm.later dX;have ju:=ju.later iF;have ju:=ju.mod iy (bL Sm);have ju:=ju.later dX;have jv:=jv.later iF;have jv:=jv.mod iy (bL sx);have jv:=jv.later dX;have jw:=jw.later iF;have jw:=jw.mod iy (bL Nf);have jw:=jw.later dX;exact c6 _ _ ⟨j+1,gX,b1,cq,c1,cZ,c2,Z,Z,kf,ab,gQ,(by rw [bj,cV,jK];exact bm),(by rw [bj];exact ju),(by rw [cV];exact jv),(by rw [jK];exact jw),by omega,(λ q I Φ=>by (exact He q I Φ)),(λ q I Φ=>by (exact Hf q I Φ)),(λ q I Φ=>by (exact AK q I Φ)),(λ q I Φ=>by (exact xr q I Φ)),(λ q I Φ=>by (exact nu q I Φ)),(λ q I Φ=>by (exact rL q I Φ)),(λ q I Φ=>by (exact uE q I Φ)),(λ q I Φ=>by (exact n7 q I Φ)),(λ q I Φ=>by (exact n8 q I Φ)),(λ q I Φ=>by (exact CG q I Φ)),(λ q I Φ=>by (exact AL q I Φ)),(λ q I Φ=>by (exact Pr q I Φ))⟩ (by omega) (.cons Z (.cons Z (.cons Z (.cons Z (.cons Z (.cons Z (.cons Z (.cons Z (.cons Z (.cons (bZ Z (by first | omega | rfl | (simp<;>omega))) .nil))))))))))
     ·refine bt<|aj<|vm Z<|vm Z<|bp Z Z Z Z (λ hc=>aM Z) Z<|bp Z Z Z Z (λ hc=>av s3 Z) Z<|bp Z Z Z Z (λ hc=>ao (gt hc Z) (nX.one bc Z)) Z<|bp Z Z Z Z (λ hc=>beq (gt hc Z) (gt hc Z)) Z<|J (e3 Z Z Z Z)<|ai<| ?_;refine dJ Z (λ EX=> ?_) (λ EX=> ?_)
      ·have sb:may W (l.getD j default)=true:=by unfold may;rw [aRL v_];rw [← EX]
       refine rg<|J (ao Z (nX.all hN dN))<| ?_;have bm:=bm.later iF;have bm:=bm.mod iy aO;have ju:=ju.later iF;have ju:=ju.mod iy (bL Sm);have jv:=jv.later iF;have jv:=jv.mod iy (bL sx);have jw:=jw.later iF;have jw:=jw.mod iy (bL Nf);have auL:∀ q∈(ur::(κ.ae gX++(κ.ae cq++κ.ae cZ))),w.heap.size≤q:=by
        intro q I;simp only [aRW,aRR] at I;rcases I with I | I | I | I
        ·omega
        ·exact (ju.lt q I).1
        ·exact (jv.lt q I).1
        ·exact (jw.lt q I).1
       refine ca ad6 Z Z ((ab3 (l.getD j default) w ur _ _ _ _ _ _ _ _ _ _ Ju Ba bm ju jv jw (λ q I Φ=>by (exact AK q I Φ)) (λ q I Φ=>by (exact rL q I Φ)) (λ q I Φ=>by (exact CG q I Φ)) (λ q I Φ=>by (exact uE q I Φ)) (λ q I Φ=>by (exact AL q I Φ)) (λ q I Φ=>by (exact Pr q I Φ)) (by omega) (by omega) (by omega)).mono ?_);rintro e F6 ⟨amO,apQ,amP,apR,amQ,apS,rfl,anf,abx,aby,abz,arV,arW,arX,arL,arM,arN,aeW,aeX,aeY,uT⟩;refine ⟨_,Z, ?_⟩;have:=uT.size;have NG:=Ext.mod Ju uT auL;have aDX:=λ q I=>(abx.lt q I).2;have aPQ:=λ q I=>(aby.lt q I).2;have aPR:=λ q I=>(abz.lt q I).2;refine nl<|b0<|aV<|rg<|J (bad Z Z (bE (by omega)))<|vm Z<|nl<| ?_;have bj:dP W l (j+1)=dP W l j++nN (l.getD j default):=Y_ (by omega) sb;have cV:ep W l (j+1)=ep W l j++nP (l.getD j default):=Zc (by omega) sb;have jK:eR W l (j+1)=eR W l j++nO (l.getD j default):=Za (by omega) sb;have ab:=ab.later iF;have ab:=ab.mod iy aO;have aAl:bJ∉(ur::(κ.ae gX++(κ.ae cq++κ.ae cZ))):=by
        intro I;simp only [aRW,aRR] at I;rcases I with I | I | I | I
        ·omega
        ·exact (λ q (τ:q∈κ.ae gX) (aa:q=bJ)=>show False by (exact He q τ aa)) _ I Z
        ·exact (λ q (τ:q∈κ.ae cq) (aa:q=bJ)=>show False by (exact xr q τ aa)) _ I Z
        ·exact (λ q (τ:q∈κ.ae cZ) (aa:q=bJ)=>show False by (exact n7 q τ aa)) _ I Z
       have ab:=ab.mod uT aAl;have aAm:sv∉(ur::(κ.ae gX++(κ.ae cq++κ.ae cZ))):=by
        intro I;simp only [aRW,aRR] at I;rcases I with I | I | I | I
        ·omega
        ·exact (λ q (τ:q∈κ.ae gX) (aa:q=sv)=>show False by (exact Hf q τ aa)) _ I Z
        ·exact (λ q (τ:q∈κ.ae cq) (aa:q=sv)=>show False by (exact nu q τ aa)) _ I Z
        ·exact (λ q (τ:q∈κ.ae cZ) (aa:q=sv)=>show False by (exact n8 q τ aa)) _ I Z
       have gQ:=gQ.mod uT aAm;exact c6 _ _ ⟨j+1,amO,apQ,amP,apR,amQ,apS,Z,Z,NG,ab,gQ,(by rw [bj,cV,jK];exact anf),(by rw [bj];exact abx),(by rw [cV];exact aby),(by rw [jK];exact abz),by omega,(λ q I Φ=>by (exact aRO (aeW q I) (λ ahp=>by (exact He q ahp Φ)) (λ ahp=>by omega))),(λ q I Φ=>by (exact aRO (aeW q I) (λ ahq=>by (exact Hf q ahq Φ)) (λ ahq=>by omega))),(λ q I Φ=>by (exact arV q I Φ)),(λ q I Φ=>by (exact aRO (aeX q I) (λ C_=>by (exact xr q C_ Φ)) (λ C_=>by omega))),(λ q I Φ=>by (exact aRO (aeX q I) (λ L3=>by (exact nu q L3 Φ)) (λ L3=>by omega))),(λ q I Φ=>by (exact arW q I Φ)),(λ q I Φ=>by (exact arL q I Φ)),(λ q I Φ=>by (exact aRO (aeY q I) (λ L4=>by (exact n7 q L4 Φ)) (λ L4=>by omega))),(λ q I Φ=>by (exact aRO (aeY q I) (λ L5=>by (exact n8 q L5 Φ)) (λ L5=>by omega))),(λ q I Φ=>by (exact arX q I Φ)),(λ q I Φ=>by (exact arM q I Φ)),(λ q I Φ=>by (exact arN q I Φ))⟩ (by omega) (.cons Z (.cons Z (.cons Z (.cons Z (.cons Z (.cons Z (.cons Z (.cons Z (.cons Z (.cons (bZ Z (by first | omega | rfl | (simp<;>omega))) .nil))))))))))
      ·have sb:may W (l.getD j default)=false:=by unfold may;rw [aRL v_];rw [← EX]
       refine e9<|b0<|aV<|rg<|J (bad Z Z (bE (by omega)))<|vm Z<|nl<| ?_;have bj:dP W l (j+1)=dP W l j:=Y9 (by omega) sb;have cV:ep W l (j+1)=ep W l j:=Zb (by omega) sb;have jK:eR W l (j+1)=eR W l j:=Y' (by omega) sb;have ab:=ab.later iF;have ab:=ab.mod iy aO;have bm:=bm.later iF;have bm:=bm.mod iy aO;have ju:=ju.later iF;have ju:=ju.mod iy (bL Sm);have jv:=jv.later iF;have jv:=jv.mod iy (bL sx);have jw:=jw.later iF;have jw:=jw.mod iy (bL Nf);exact c6 _ _ ⟨j+1,gX,b1,cq,c1,cZ,c2,Z,Z,Ju,ab,gQ,(by rw [bj,cV,jK];exact bm),(by rw [bj];exact ju),(by rw [cV];exact jv),(by rw [jK];exact jw),by omega,(λ q I Φ=>by (exact He q I Φ)),(λ q I Φ=>by (exact Hf q I Φ)),(λ q I Φ=>by (exact AK q I Φ)),(λ q I Φ=>by (exact xr q I Φ)),(λ q I Φ=>by (exact nu q I Φ)),(λ q I Φ=>by (exact rL q I Φ)),(λ q I Φ=>by (exact uE q I Φ)),(λ q I Φ=>by (exact n7 q I Φ)),(λ q I Φ=>by (exact n8 q I Φ)),(λ q I Φ=>by (exact CG q I Φ)),(λ q I Φ=>by (exact AL q I Φ)),(λ q I Φ=>by (exact Pr q I Φ))⟩ (by omega) (.cons Z (.cons Z (.cons Z (.cons Z (.cons Z (.cons Z (.cons Z (.cons Z (.cons Z (.cons (bZ Z (by first | omega | rfl | (simp<;>omega))) .nil))))))))))
    ·refine dH<|dG<|ef<|dF<|aV<|aA<| ?_;refine rd [(1,0),(3,0),(5,0)] [0,1,2,3,4,5,6,7,8,9] (by kernel_rfl) (by kernel_rfl) ?_;refine au Z (λ _=>av UT Z)<|bH Z (λ _ x=>ao Z ((bm.later x).one ad3 Z))<|au Z (λ _=>av UU Z)<|bH Z (λ _ x=>ao Z ((bm.later x).one ad4 Z))<|au Z (λ _=>av EI Z)<|bH Z (λ _ x=>ao Z ((bm.later x).one PD Z))<|au Z (λ _=>fg Z)<|au Z (λ _=>fg Z)<|au Z (λ _=>fg Z)<|au Z (λ _=>fg Z)<|fn λ aQC NA=> ?_;have:=NA.size;have aFK:=γ qx NA;refine aV<|rt<|bb (.tmp Z (.tmp Z (.tmp Z (.tmp Z .nil))))<| ?_;have ju:=ju.later NA;have jv:=jv.later NA;have jw:=jw.later NA;have atG:j=l.length:=by omega
     subst atG;exact ⟨gX,b1,cq,c1,cZ,c2, .inr (.inr ⟨by simpa using kL,by simpa using ix,rfl,ju,jv,jw⟩),aFK⟩
end
section
def ou (W:ah) (l:List aF):Int:=if hC l≠0 then hC l else W.bo
theorem M5 {W:ah} {l:List aF} (h:ou W l=0):hC l=0∧W.bo=0:=by
 unfold ou at h;split at h
 ·rename_i τ;exact absurd h τ
 ·rename_i τ;exact ⟨by simpa using τ,h⟩
theorem aDd {W:ah} {l:List aF} (h:ou W l=0):l.length≤100:=(FQ (M5 h).1).1
theorem aDe (A:Option Addr) (c:Nat) (l:List aF) (rG:ah.b5) (W:ah) (w:World) (az:aF.rep.aJ 48 w A c l) (bV:ah.Has w rG W) (h:ou W l≠0):Calls prog 60 #[.slice A l.length c, .agg (ah.cells rG W).toArray] w (λ e w'=>e= .returned (.tuple #[.slice none 0 0, .slice none 0 0, .slice none 0 0, .int .i64 (ou W l)])∧Ext w w'):=by
 refine (ak6 A c l rG W w az bV).mono λ e w' he=> ?_;obtain ⟨gX,b1,cq,c1,cZ,c2,(⟨τ,aa⟩ | ⟨τ,aa,aw⟩ | ⟨τ,aa,_⟩),hx⟩:=he
 ·exact ⟨by rw [aa];unfold ou;rw [aRP τ],hx⟩
 ·exact ⟨by rw [aw];unfold ou;rw [aRL (by simpa using τ)],hx⟩
 ·exact absurd (by unfold ou;rw [aRL (by simpa using τ)];exact aa) h
theorem ak7 (A:Option Addr) (c:Nat) (l:List aF) (rG:ah.b5) (W:ah) (w:World) (az:aF.rep.aJ 48 w A c l) (bV:ah.Has w rG W) (h:ou W l=0):Calls prog 60 #[.slice A l.length c, .agg (ah.cells rG W).toArray] w (λ e w'=>∃ gX b1 cq c1 cZ c2,e= .returned (.tuple #[.slice gX (dP W l l.length).length b1, .slice cq (ep W l l.length).length c1, .slice cZ (eR W l l.length).length c2, .int .i64 0])∧dk.rep.aD 223 16 w' w.heap.size (κ.ae gX) gX b1 (dP W l l.length)∧dm.rep.aD 225 24 w' w.heap.size (κ.ae cq) cq c1 (ep W l l.length)∧cn.rep.aD 178 40 w' w.heap.size (κ.ae cZ) cZ c2 (eR W l l.length)∧Ext w w'):=by
 obtain ⟨cd,a2⟩:=M5 h;refine (ak6 A c l rG W w az bV).mono λ e w' he=> ?_;obtain ⟨gX,b1,cq,c1,cZ,c2,(⟨τ,aa⟩ | ⟨τ,aa,aw⟩ | ⟨τ,aa,aw,a1,bK,b_⟩),hx⟩:=he
 ·exact absurd cd τ
 ·exact absurd a2 aa
 ·exact ⟨gX,b1,cq,c1,cZ,c2,aw,a1,bK,b_,hx⟩
end
section
section
variable {F:List Nat} {P:Program} {ops:Array Oper} {Q:Exit→Act→World→Prop} {aS:Nat→Nat}
def vH (F:List Nat) (P:Program) (ops:Array Oper) (w0:World) (o:Oper) (v:Value) (a:Act):Prop :=
  (Region.wanted o (yielded ops a.tmps)=true∧∀ w,Mod F w0 w→wF P w v ((execOp a.eval o).run P w))∨
  (Region.wanted o (yielded ops a.tmps)=false∧v=undef)
theorem vH.of_same {w0:World} {o:Oper} {v:Value} {a a':Act} (h:vH F P ops w0 o v a) (he:execOp a'.eval o=execOp a.eval o) (hw:Region.wanted o (yielded ops a'.tmps)=Region.wanted o (yielded ops a.tmps)):vH F P ops w0 o v a':=by
  unfold vH at *;rw [he,hw];exact h
theorem vH.on {w0 aP:World} {o:Oper} {v:Value} {a:Act} (h:vH F P ops w0 o v a) (hx:Mod F w0 aP):vH F P ops aP o v a :=
  h.imp (λ ⟨τ,aa⟩=>⟨τ,λ w hw=>aa w (hx.trans hw)⟩) id
theorem Yields.aCd {w0:World} {o:Oper} {v:Value} {a:Act} (h:Yields P ops o v a):vH F P ops w0 o v a :=
  h.imp (λ ⟨τ,aa⟩=>⟨τ,λ w _=>by rw [aa w];exact ⟨rfl,rfl⟩⟩) id
def aDr (F:List Nat) (P:Program) (ops:Array Oper) (Q:Exit→Act→World→Prop) (aS:Nat→Nat) (i:Nat) (K:Act→World→Prop) (a:Act) (w0:World):Prop :=
  ∃ o,ops[i]? =some o∧
    ((aS i≤1∧∃ v,vH F P ops w0 o v a∧K (a.put o.dst v) w0)∨
     (1<aS i∧∀ w,Ext w0 w→wpOp P ops Q i (λ a' w'=>(aS i=2→Mod F w0 w')∧K a' w') a w))
def Ke (F:List Nat) (P:Program) (ops:Array Oper) (Q:Exit→Act→World→Prop) (aS:Nat→Nat):Nat→Array Bool→Act→World→Prop
  | 0,l,a,w0=>Region.ready .any ops l= []∧∀ w,Ext w0 w→Q .normal a w
  | f+1,l,a,w0=>(Region.ready .any ops l= []→∀ w,Ext w0 w→Q .normal a w)∧∀ i∈Region.ready .any ops l,aDr F P ops Q aS i (Ke F P ops Q aS f (l.setIfInBounds i true)) a w0
theorem G3:∀ (f:Nat) (l:Array Bool) (a:Act) (w0:World),Ke F P ops Q aS f l a w0→∀ w,Ext w0 w→wpAny P .any ops Q f l a w
  | 0,_,_,_,h,w,hw=>⟨h.1,h.2 w hw⟩
  | f+1,l,a,w0,h,w,hw=>⟨λ aH=>h.1 aH w hw,λ i aq=>by
      obtain ⟨o,bS,aa⟩:=h.2 i aq;rcases aa with ⟨_,v,I,ar⟩ | ⟨_,aa⟩
      · unfold wpOp
        simp only [bS];rcases I with ⟨lB,I⟩ | ⟨lB,rfl⟩
        · rw [aRP lB]
          refine .inl ?_;have I:=I w (Mod.bC hw);unfold Oper.wp;generalize (execOp a.eval o).run P w=r at *
          cases r with
          | ok n w' =>
            cases n<;>simp only [wF] at I<;>simp only [Oper.upon]
            case value u=>obtain ⟨rfl,rfl⟩:=I;exact G3 f _ _ _ ar _ hw
            case skip=>obtain ⟨rfl,rfl⟩:=I;exact G3 f _ _ _ ar _ hw
            case enter f' args=>obtain ⟨rfl,hc⟩:=I;exact hc.mono λ e ku ⟨he,hx⟩=>by subst he;exact G3 f _ _ _ ar _ (hw.tH hx)
          | halt x w'=>simp only [wF] at I
        · rw [aRL (by rw [lB];decide)]
          exact G3 f _ _ _ ar _ hw
      · exact aTt (λ a' w' aw=>G3 f _ _ _ aw.2 _ (Ext.bF w')) (aa w hw)⟩
theorem aeI {i:Nat} {cJ:Oper} {v:Value} (aq:ops[i]? =some cJ) (ar:aS i≤1) (kN:∀ (j:Nat) (o:Oper) cs b,ops[j]? =some o→o.op≠ .select cs b)
    (gy:∀ c a w,¬ Q (.panic c) a w) (aC:World→Act→Prop) (ln:∀ w0 a,aC w0 a→vH F P ops w0 cJ v a)
    (z2:∀ w0 a a',aC w0 a→execOp a'.eval cJ=execOp a.eval cJ→Region.wanted cJ (yielded ops a'.tmps)=Region.wanted cJ (yielded ops a.tmps)→aC w0 a')
    (z3:∀ w0 aP a,Mod F w0 aP→aC w0 a→aC aP a) (R:Nat→Bool) (sg:Array Bool)
    (hR:∀ j cR,ops[j]? =some cR→j≠i→(∀ e∈cR.after,Region.binds .any e=true→R e.on=true)→R j=true)
    (aX:(∀ w0 aP a,aC w0 a→aC aP a)∨∀ j,R j=true→3≤aS j→sg.getD j true=true):
    ∀ (f:Nat) (l:Array Bool) (a:Act) (w0:World),(∀ j,l.getD j false=true→R j=true)→(∀ j,sg.getD j true=true→l.getD j true=true)→
      (∀ j cR,ops[j]? =some cR→j≠i→l.getD j true=false→(∀ e∈cR.after,Region.binds .any e=true→e.on≠i)→cJ.apart ops cR=true)→
      i∈Region.ready .any ops l→aC w0 a→Ke F P ops Q aS f (l.setIfInBounds i true) (a.put cJ.dst v) w0→Ke F P ops Q aS (f+1) l a w0:=by
  intro f;induction f with
  | zero =>
    intro l a w0 _ _ _ hr bs H;refine ⟨λ h=>(by rw [h] at hr;cases hr),λ j ay=> ?_⟩;by_cases fM:j=i
    · subst fM;exact ⟨cJ,aq, .inl ⟨ar,v,ln _ _ bs,H⟩⟩
    · have:=aTw ay fM
      rw [H.1] at this;cases this
  | succ f bD =>
    intro l a w0 xL r_ xI hr bs H;refine ⟨λ h=>(by rw [h] at hr;cases hr),λ j ay=> ?_⟩;by_cases fM:j=i
    · subst fM;exact ⟨cJ,aq, .inl ⟨ar,v,ln _ _ bs,H⟩⟩
    · obtain ⟨cR,ic,τ⟩:=H.2 j (aTw ay fM)
      obtain ⟨r7,eE,xN,de⟩:=aUq.1 ay;obtain rfl:eE=cR:=by rw [ic] at xN;exact (aRA xN).symm
      have Ff:∀ e∈eE.after,Region.binds .any e=true→e.on≠i:=λ e he Φ heq=>by
        have τ:=de e he Φ;have aH:=(aUq.1 hr).1;rw [heq] at τ;rcases aSA i l.size with cI | cI
        · simp [cI] at aH τ;rw [aH] at τ;cases τ
        · simp [aSv cI] at τ
      have E0:=xI j eE ic fM r7 Ff;obtain ⟨cd,a2,a3⟩:=aUZ E0;have Fi:∀ cs b,cJ.op≠ .select cs b:=λ cs b=>kN i cJ cs b aq;have th:∀ cs b,eE.op≠ .select cs b:=λ cs b=>kN j eE cs b ic;have keep:∀ aP a u,aC aP a→aC aP (a.put eE.dst u):=λ aP a u bs=>z2 _ _ _ bs (aTU cJ Fi a eE.dst u a3) (aT9 cJ a eE.dst u a3);have xD:R j=true:=hR j eE ic fM λ e he Φ=>xL _ (de e he Φ);have xM:∀ k,(l.setIfInBounds j true).getD k false=true→R k=true:=λ k ar=>by
        by_cases fD:j=k
        · rw [← fD];exact xD
        · rw [aTj false fD] at ar;exact xL k ar
      have xK:∀ k,sg.getD k true=true→(l.setIfInBounds j true).getD k true=true:=λ k ar=>by
        by_cases fD:j=k
        · subst fD
          rcases aSA j l.size with cI | cI
          · simp [cI]
          · simp [aSv cI]
        · rw [aTj true fD];exact r_ k ar
      have xJ:∀ k ok,ops[k]? =some ok→k≠i→(l.setIfInBounds j true).getD k true=false→
          (∀ e∈ok.after,Region.binds .any e=true→e.on≠i)→cJ.apart ops ok=true:=λ k ok ar ob xS jc=>by
        refine xI k ok ar ob ?_ jc;by_cases fD:j=k
        · subst fD;exact r7
        · rw [aTj true fD] at xS;exact xS
      have xQ:=aTw hr (aUi fM);rcases τ with ⟨r9,u,I,hK⟩ | ⟨r9,τ⟩
      · refine ⟨eE,ic, .inl ⟨r9,u,I.of_same (aTU eE th a cJ.dst v cd).symm (aT9 eE a cJ.dst v cd).symm, ?_⟩⟩
        refine bD _ _ _ xM xK xJ xQ (keep _ _ _ bs) ?_;rw [aSQ _ _ fM,← aTv a v u a2];exact hK
      · refine ⟨eE,ic, .inr ⟨r9,λ w hw=> ?_⟩⟩
        refine aTt (λ a' w' aw=>⟨aw.2.1, ?_⟩) (SK (aC:=aC w0) ic cd a2 th gy (keep w0) (λ a d bs=>z2 _ _ _ bs Z Z) bs (τ w hw));have Fl:aC w' a':=by
          rcases aSA (aS j) 3 with bw | r4
          · exact z3 _ _ _ (aw.2.1 (by omega)) aw.1
          · rcases aX with aX | aX
            · exact aX _ _ _ aw.1
            · have:=r_ j (aX j xD r4);rw [r7] at this;cases this
        refine bD _ _ _ xM xK xJ xQ Fl ?_;rw [aSQ _ _ fM];exact aw.2.2
def Jh (F:List Nat) (P:Program) (ops:Array Oper) (Q:Exit→Act→World→Prop) (aS:Nat→Nat):List Nat→Act→World→Prop
  | [],a,w0=>∀ w,Ext w0 w→Q .normal a w
  | i::r,a,w0=>∃ o,ops[i]? =some o∧
      ((aS i=0∧∃ v,vH F P ops w0 o v a∧Jh F P ops Q aS r (a.put o.dst v) w0)∨
       (aS i=1∧∃ v,Yields P ops o v a∧Jh F P ops Q aS r (a.put o.dst v) w0)∨
       (1<aS i∧∀ w,Ext w0 w→wpOp P ops Q i (λ a' w'=>(aS i=2→Mod F w0 w')∧Jh F P ops Q aS r a' w') a w))
theorem OS (hs:Region.noSelect ops=true) (gy:∀ c a w,¬ Q (.panic c) a w):∀ (r:List Nat) (l:Array Bool) (a:Act) (w0:World),l.size=ops.size→h' ops aS r l=true→Jh F P ops Q aS r a w0→Ke F P ops Q aS r.length l a w0
  | [],l,a,w0,_,aX,h=>⟨by simpa [h'] using aX,h⟩
  | i::r,l,a,w0,az,aX,h=>by
    obtain ⟨o,bS,h⟩:=h;have kN:=aTV hs;rcases h with ⟨ar,v,I,hK⟩ | ⟨ar,v,I,hK⟩ | ⟨ar,h⟩
    · simp only [h',ar,aRI] at aX
      obtain ⟨⟨⟨hf,hr⟩,Φ⟩,aX⟩:=aX;obtain ⟨R,r1,r2,u0⟩:=Ki az Φ;exact aeI bS (by omega) kN gy (λ w0 a=>vH F P ops w0 o v a) (λ _ _ h=>h) (λ _ _ _ h he hw=>h.of_same he hw) (λ _ _ _ hx h=>h.on hx) R l r1 (.inr u0) _ _ _ _ r2 (λ _ h=>h) (aS4 bS hf) (by simpa using hr) I
        (OS hs gy r _ _ _ (by simpa using az) aX hK)
    · simp only [h',ar,aRI] at aX
      obtain ⟨⟨hf,hr⟩,aX⟩:=aX;exact aeI bS (by omega) kN gy (λ _ a=>Yields P ops o v a) (λ _ _ h=>Yields.aCd h) (λ _ _ _ h he hw=>h.of_same he hw) (λ _ _ _ _ h=>h) (λ _=>true) l (λ _ _ _ _ _=>Z) (.inl λ _ _ _ h=>h) _ _ _ _ (λ _ _=>Z) (λ _ h=>h) (aS4 bS hf) (by simpa using hr) I
        (OS hs gy r _ _ _ (by simpa using az) aX hK)
    · obtain ⟨k,gS⟩:∃ k,aS i=k+2:=⟨aS i - 2,by omega⟩
      simp only [h',gS,aRI,aSC] at aX;obtain ⟨hr,aX⟩:=aX;refine ⟨λ aH=>(by rw [hr] at aH;cases aH),λ j ay=> ?_⟩;rw [hr] at ay;obtain rfl:j=i:=by simpa using ay
      exact ⟨o,bS, .inr ⟨ar,λ w hw=>aTt (λ a' w' aw=>⟨aw.1,OS hs gy r _ _ _ (by simpa using az) aX aw.2⟩) (h w hw)⟩⟩
theorem aCq {id:Nat} {a:Act} {w:World} (bO:List Nat) (hm:P.follows .mixedOrders=true) (aX:(Region.noSelect ops && (bO.length == ops.size) && h' ops aS bO (Array.replicate ops.size false))=true)
    (h:Jh F P ops (gF (Q .normal)) aS bO a w):(Code.region id ops true).wp P Q a w:=by
  simp only [aRI,aSC] at aX;obtain ⟨⟨hs,az⟩,aX⟩:=aX;refine aWk (aUC hm (Q:=gF (Q .normal)) ?_) (λ e a w I=>by cases e<;>first | exact I | exact I.elim);have:=OS (P:=P) hs (Q:=gF (Q .normal)) (λ _ _ _ h=>h) bO (Array.replicate ops.size false) a w (by simp) aX h;rw [az] at this;exact G3 _ _ _ _ this _ (aR8 _ w).drew
end
section
variable {F:List Nat} {P:Program} {n:Nat} {E cP:List (Nat×Value)} {a:Act} {w w' w0 aP:World} {Q:Exit→Act→World→Prop} {ops:Array Oper} {v:Value} {aS:Nat→Nat}
variable {d:Option Nat} {ty:TypeId} {pos:String} {af:Array Edge} {g:Option (Nat×Bool)} {x y z:Operand} {t:TypeId} {rest:List Oper} {bO:List Nat} {i:Nat}
def yK (F:List Nat) (P:Program) (n:Nat) (ops:Array Oper) (Q:Exit→Act→World→Prop) (aS:Nat→Nat) (bO:List Nat) (E:List (Nat×Value)) (w0:World):Prop:=∀ a,er n E a→Jh F P ops (gF (Q .normal)) aS bO a w0
theorem RN {id:Nat} (F:List Nat) (lC:List (Nat×Nat)) (bO:List Nat) (hm:P.follows .mixedOrders=true) (aX:(Region.noSelect ops && (bO.length == ops.size) && h' ops (nD lC) bO (Array.replicate ops.size false))=true)
    (h:yK F P n ops Q (nD lC) bO E w):W P n (.region id ops true) Q E w:=λ a ha=>aCq bO hm aX (h a ha)
theorem PZ (h:∀ w,Ext w0 w→N n Q E w):yK F P n ops Q aS [] E w0:=λ a ha w hw=>h w hw a ha
theorem ze {d:Nat} {op:Op} (aq:ops[i]? =some ⟨some d,op,ty,pos,af,none⟩) (ar:aS i=0) (hr:∀ w,Mod F w0 w→cS P E ⟨some d,op,ty,pos,af,none⟩ w v w) (hd:Nat.blt d n=true)
    (h:yK F P n ops Q aS bO ((d,v)::E) w0):yK F P n ops Q aS (i::bO) E w0:=λ a ha =>
  ⟨_,aq, .inl ⟨ar,v, .inl ⟨ym rfl,λ w hw=>by rw [hr w hw n a ha];exact ⟨rfl,rfl⟩⟩,h _ (ha.put hd v)⟩⟩
theorem jx {d:Nat} {op:Op} (aq:ops[i]? =some ⟨some d,op,ty,pos,af,none⟩) (ar:aS i=1) (hr:∀ w,cS P E ⟨some d,op,ty,pos,af,none⟩ w v w) (hd:Nat.blt d n=true)
    (h:yK F P n ops Q aS bO ((d,v)::E) w0):yK F P n ops Q aS (i::bO) E w0:=λ a ha =>
  ⟨_,aq, .inr (.inl ⟨ar,v, .inl ⟨ym rfl,λ w=>hr w n a ha⟩,h _ (ha.put hd v)⟩)⟩
theorem ES {o:Oper} (aK:o.guard=none) (aq:ops[i]? =some o) (ar:aS i=2) (h:∀ w,Ext w0 w→Cp P n ops o E w λ cP w'=>Mod F w0 w'∧yK F P n ops Q aS bO cP w'):yK F P n ops Q aS (i::bO) E w0:=λ a ha =>
  ⟨_,aq, .inr (.inr ⟨by omega,λ w hw=>F1 aK aq (h w hw) (λ cP w' a' ar pW=>⟨λ _=>ar.1,ar.2 a' pW⟩) ha⟩)⟩
theorem Vn {o:Oper} (aK:o.guard=none) (aq:ops[i]? =some o) (ar:aS i=3) (h:∀ w,Ext w0 w→Cp P n ops o E w λ cP w'=>yK F P n ops Q aS bO cP w'):yK F P n ops Q aS (i::bO) E w0:=λ a ha =>
  ⟨_,aq, .inr (.inr ⟨by omega,λ w hw=>F1 aK aq (h w hw) (λ cP w' a' ar pW=>⟨λ aa=>by omega,ar a' pW⟩) ha⟩)⟩
end
end
section
def h5 (W:ah) (l:List aF):Int:=if ou W l≠0 then ou W l else if 1000000≤W.now then 6 else 0
def zJ (W:ah) (l:List aF):ah:=gG W (dP W l l.length)
noncomputable def zK (W:ah) (l:List aF):ah:=hk (zJ W l) (ep W l l.length)
noncomputable def u4 (W:ah) (l:List aF):ah:=(zK W l).iK (eR W l l.length)
noncomputable def ox (W:ah) (l:List aF):ah:=if h5 W l≠0 then ah.zero else {u4 W l with now:=(u4 W l).now+1}
def zM (W:ah) (l:List aF):List Int:=if h5 W l≠0 then [] else tG W (dP W l l.length)
noncomputable def zN (W:ah) (l:List aF):List Int:=if h5 W l≠0 then [] else o8 (zJ W l) (ep W l l.length)
noncomputable def zL (W:ah) (l:List aF):List Bool:=if h5 W l≠0 then [] else (zK W l).vS (eR W l l.length)
theorem alq {W:ah} {l:List aF} (h:h5 W l≠0):ox W l=ah.zero∧zM W l= []∧zN W l= []∧zL W l= []:=by
 unfold ox zM zN zL;simp only [aRP h,and_self]
theorem alr {W:ah} {l:List aF} (h:h5 W l=0):ox W l= {u4 W l with now:=(u4 W l).now+1}∧zM W l=tG W (dP W l l.length)∧zN W l=o8 (zJ W l) (ep W l l.length)∧zL W l=(zK W l).vS (eR W l l.length):=by
 have cI:¬ h5 W l≠0:=by simpa using h
 unfold ox zM zN zL;simp only [aRL cI,and_self]
theorem R7 {W:ah} {l:List aF} (h:h5 W l=0):ou W l=0∧W.now<1000000∧W.bo=0∧l.length≤100:=by
 unfold h5 at h;split at h
 ·contradiction
 ·rename_i τ
  have τ:ou W l=0:=by simpa using τ
  split at h
  ·exact nomatch h
  ·exact ⟨τ,by omega,(M5 τ).2,aDd τ⟩
theorem arA {W:ah} {l:List cn} (h:W.bo=0) (az:l.length≤200):W.rM l=0∧W.iK l=(W.h0 l).1:=by
 have e:W.rM l=0:=by unfold ah.rM;rw [aRL (by omega),aRL (by omega)]
 exact ⟨e,by unfold ah.iK;rw [aRP e]⟩
theorem Ui {W:ah} {l:List dk} (h:W.bo=0) (az:l.length≤200):ml W l=0:=by unfold ml;rw [aRL (by omega),aRL (by omega)]
theorem aDO {W:ah} {l:List aF} (h:h5 W l=0):ml W (dP W l l.length)=0∧sm (zJ W l) (ep W l l.length)=0∧(zK W l).rM (eR W l l.length)=0∧Good (zJ W l)∧Good (zK W l)∧Good (u4 W l):=by
 obtain ⟨τ,aa,aw,a1⟩:=R7 h;obtain ⟨mI,fz,gR⟩:=ak5 W l l.length;have a_:=Ui (l:=dP W l l.length) aw (by omega);have g1:Good (zJ W l):=(alh a_).right;have bj:=(Rk (W:=zJ W l) (l:=ep W l l.length) g1.bo (by omega)).1;have g2:Good (zK W l):=(azJ bj).1;obtain ⟨cV,jK⟩:=arA (W:=zK W l) (l:=eR W l l.length) g2.bo (by omega);refine ⟨a_,bj,cV,g1,g2, ?_⟩;unfold u4;rw [jK];exact g2.h0 _
def ON (W:ah) (l:List aF) (w:World) (e:Ending) (w':World):Prop :=
 ∃ a' gX b1 cq c1 cZ c2,e= .returned (.tuple #[.agg (ah.cells a' (ox W l)).toArray, .agg #[.slice gX (zM W l).length b1, .slice cq (zN W l).length c1, .slice cZ (zL W l).length c2], .int .i64 (h5 W l)])∧bq w' w.heap.size a' (ox W l)∧
  bP.aD 3 8 w' w.heap.size (κ.ae gX) gX b1 (zM W l)∧bP.aD 3 8 w' w.heap.size (κ.ae cq) cq c1 (zN W l)∧zG.aD 4 1 w' w.heap.size (κ.ae cZ) cZ c2 (zL W l)∧
  (∀ q,(q∈κ.ae gX∨q∈κ.ae cq∨q∈κ.ae cZ)→q∉bq.bX a')∧Ext w w'
theorem aDL (a:ah.b5) (W:ah) (A:Option Addr) (c:Nat) (l:List aF) (w:World) (bV:ah.Has w a W) (az:aF.rep.aJ 48 w A c l) (τ:ou W l≠0):
  Calls prog 25 #[.agg ((ah.cells a W).toArray), .slice A l.length c] w (ON W l w):=by
 have dO:(ou W l == 0)=false:=by simpa using τ
 have dY:(ou W l != 0)=true:=by simpa using τ
 refine ch (n:=62) func25 Z Z Z ?_;refine aj<|cB Z Z Z Z λ cv bJ a7 ee ab=> ?_;have:=a7.size;have bg:=γ (Ext.bF w) a7;have ei:=ab.lt;refine al Z pQ Z Z λ eK cw bl ie ag=> ?_;have:=bl.size;have bQ:=γ bg bl;have h3:=ag.lt;refine al Z Hi Z Z λ h6 h9 b9 qZ aI=> ?_;have:=b9.size;have df:=γ bQ b9;have o':=aI.lt;refine va Z<|ai<|aj<|vm Z<| ?_;have ab:=ab.later (γ bl b9);refine J (ao Z (ab.all du cf))<|ca UY Z Z ((aDe _ _ l a W _ (az.keep df) (bV.keep df) τ).mono ?_);rintro e na ⟨rfl,dV⟩;refine ⟨_,Z, ?_⟩;have:=dV.size;have e4:=γ df dV;refine vm rfl<|J (ex rfl rfl)<|J (ex rfl rfl)<|J (ex rfl rfl)<|J (ex rfl rfl)<|va rfl<|va rfl<|va rfl<|va rfl<|ai<|aA<|aj<|vm rfl<|J (beq rfl rfl)<|vm (gM rfl dO)<|bp (v:=undef) rfl rfl rfl rfl (λ hc=>nomatch hc) rfl<|bp (v:=undef) rfl rfl rfl rfl (λ hc=>nomatch hc) rfl<|bp (v:=undef) rfl rfl rfl rfl (λ hc=>nomatch hc) rfl<|J (tC rfl rfl)<|ai<|hL rfl<| ?_;refine bt<|aA<|aj<|vm Z<|J (bne Z Z)<|ai<|fA (gM Z dY)<|aj<|J (v:= .agg #[.int .i64 0, .int .i64 0, .slice none 0 0, .slice none 0 0, .slice none 0 0, .slice none 0 0, .slice none 0 0, .int .i64 0, .int .i64 0]) (cK Z (by kernel_rfl))<|J (v:= .agg #[.slice none 0 0, .slice none 0 0, .slice none 0 0]) (cK Z (by kernel_rfl))<|vm Z<| ?_;have ag:=ag.later (γ b9 dV);refine st (new:= [.int .i64 0, .int .i64 0, .slice none 0 0, .slice none 0 0, .slice none 0 0, .slice none 0 0, .slice none 0 0, .int .i64 0, .int .i64 0]) Z Z ag Z cf Z Z Z λ tL FF ag=> ?_;have:=FF.size;have jI:=Ext.mod e4 FF bu;have aI:=aI.later dV;have aI:=aI.mod FF aO;refine st (new:= [.slice none 0 0, .slice none 0 0, .slice none 0 0]) Z Z aI Z AO Z Z Z λ tM zy aI=> ?_;have:=zy.size;have hX:=Ext.mod jI zy bu;refine va Z<|ai<|rt<|bT<| ?_;have ag:=ag.mod zy aO;refine bb (.cell Z (ag.all du cf) (.cell Z (aI.all PE AO) (.tmp Z .nil)))<| ?_;have e0:h5 W l=ou W l:=by unfold h5;rw [aRP τ]
 obtain ⟨ln,z2,z3,z4⟩:=alq (W:=W) (l:=l) (by rw [e0];first | exact τ | decide);exact ⟨⟨none,none,none,none,none,0,0,0,0,0⟩,none,0,none,0,none,0,by rw [e0,ln,z2,z3,z4];rfl,by rw [ln];exact bq.zero _ _,by rw [z2];exact κ.aD.nil _,by rw [z3];exact κ.aD.nil _,by rw [z4];exact κ.aD.nil _,λ q I=>by simp [κ.ae] at I,hX⟩
theorem aDM (a:ah.b5) (W:ah) (A:Option Addr) (c:Nat) (l:List aF) (w:World) (bV:ah.Has w a W) (az:aF.rep.aJ 48 w A c l) (τ:ou W l=0) (aa:1000000≤W.now):
  Calls prog 25 #[.agg ((ah.cells a W).toArray), .slice A l.length c] w (ON W l w):=by
 refine ch (n:=62) func25 Z Z Z ?_;refine aj<|cB Z Z Z Z λ cv bJ a7 ee ab=> ?_;have:=a7.size;have bg:=γ (Ext.bF w) a7;have ei:=ab.lt;refine al Z pQ Z Z λ eK cw bl ie ag=> ?_;have:=bl.size;have bQ:=γ bg bl;have h3:=ag.lt;refine al Z Hi Z Z λ h6 h9 b9 qZ aI=> ?_;have:=b9.size;have df:=γ bQ b9;have o':=aI.lt;refine va Z<|ai<|aj<|vm Z<| ?_;have ab:=ab.later (γ bl b9);refine J (ao Z (ab.all du cf))<|ca UY Z Z ((ak7 _ _ l a W _ (az.keep df) (bV.keep df) τ).mono ?_);rintro e tM ⟨amZ,ap1,Td,ap2,am0,Uv,rfl,Cf,vD,oJ,fb⟩;refine ⟨_,Z, ?_⟩;have:=fb.size;have hX:=γ df fb;have F4:=λ q I=>(Cf.lt q I).2;have Mq:=λ q I=>(Cf.lt q I).1;have Zp:=λ q I=>(vD.lt q I).2;have Mr:=λ q I=>(vD.lt q I).1;have iz:=λ q I=>(oJ.lt q I).2;have nF:=λ q I=>(oJ.lt q I).1;refine vm Z<|J (ex Z Z)<|J (ex Z Z)<|J (ex Z Z)<|J (ex Z Z)<|va Z<|va Z<|va Z<|va Z<|ai<|aA<|aj<|vm Z<|J (beq Z Z)<|vm Z<|nT Z Z Z<|J (av KB Z)<|nT Z Z Z<| ?_;have ab:=ab.later fb;refine J (ao Z (ab.one bc Z))<|nT Z Z Z<|J (j4 Z Z)<|J (q8 Z Z)<|ai<| ?_;have n':(decide (1000000≤W.now))=true:=by exact aSe aa
 refine fA (by rw [← n'];rfl)<|rg<|va Z<|ai<|aA<|aj<|vm Z<|J (bne Z Z)<|ai<|fA Z<|aj<|J (v:= .agg #[.int .i64 0, .int .i64 0, .slice none 0 0, .slice none 0 0, .slice none 0 0, .slice none 0 0, .slice none 0 0, .int .i64 0, .int .i64 0]) (cK Z (by kernel_rfl))<|J (v:= .agg #[.slice none 0 0, .slice none 0 0, .slice none 0 0]) (cK Z (by kernel_rfl))<|vm Z<| ?_;have ag:=ag.later (γ b9 fb);refine st (new:= [.int .i64 0, .int .i64 0, .slice none 0 0, .slice none 0 0, .slice none 0 0, .slice none 0 0, .slice none 0 0, .int .i64 0, .int .i64 0]) Z Z ag Z cf Z Z Z λ F8 Bp ag=> ?_;have:=Bp.size;have vq:=Ext.mod hX Bp bu;have aI:=aI.later fb;have aI:=aI.mod Bp aO;refine st (new:= [.slice none 0 0, .slice none 0 0, .slice none 0 0]) Z Z aI Z AO Z Z Z λ BL uW aI=> ?_;have:=uW.size;have k2:=Ext.mod vq uW bu;refine va Z<|ai<|rt<|bT<| ?_;have ag:=ag.mod uW aO;refine bb (.cell Z (ag.all du cf) (.cell Z (aI.all PE AO) (.tmp Z .nil)))<| ?_;have e0:h5 W l=6:=by unfold h5;rw [aRL (by simpa using τ),aRP aa]
 obtain ⟨ln,z2,z3,z4⟩:=alq (W:=W) (l:=l) (by rw [e0];first | exact τ | decide);exact ⟨⟨none,none,none,none,none,0,0,0,0,0⟩,none,0,none,0,none,0,by rw [e0,ln,z2,z3,z4];rfl,by rw [ln];exact bq.zero _ _,by rw [z2];exact κ.aD.nil _,by rw [z3];exact κ.aD.nil _,by rw [z4];exact κ.aD.nil _,λ q I=>by simp [κ.ae] at I,k2⟩
theorem aDN (a:ah.b5) (W:ah) (A:Option Addr) (c:Nat) (l:List aF) (w:World) (bV:ah.Has w a W) (az:aF.rep.aJ 48 w A c l) (aH:h5 W l=0):
  Calls prog 25 #[.agg ((ah.cells a W).toArray), .slice A l.length c] w (ON W l w):=by
 obtain ⟨τ,aa,aw,a1⟩:=R7 aH;obtain ⟨a_,bj,cV,g1,g2,g3⟩:=aDO aH;have aw0:0≤(u4 W l).now∧(u4 W l).now≤1000000:=g3.now;refine ch (n:=62) func25 Z Z Z ?_;refine aj<|cB Z Z Z Z λ cv bJ a7 ee ab=> ?_;have:=a7.size;have bg:=γ (Ext.bF w) a7;have ei:=ab.lt;refine al Z pQ Z Z λ eK cw bl ie ag=> ?_;have:=bl.size;have bQ:=γ bg bl;have h3:=ag.lt;refine al Z Hi Z Z λ h6 h9 b9 qZ aI=> ?_;have:=b9.size;have df:=γ bQ b9;have o':=aI.lt;refine va Z<|ai<|aj<|vm Z<| ?_;have ab:=ab.later (γ bl b9);refine J (ao Z (ab.all du cf))<|ca UY Z Z ((ak7 _ _ l a W _ (az.keep df) (bV.keep df) τ).mono ?_);rintro e tM ⟨amZ,ap1,Td,ap2,am0,Uv,rfl,Cf,vD,oJ,fb⟩;refine ⟨_,Z, ?_⟩;have:=fb.size;have hX:=γ df fb;have F4:=λ q I=>(Cf.lt q I).2;have Mq:=λ q I=>(Cf.lt q I).1;have Zp:=λ q I=>(vD.lt q I).2;have Mr:=λ q I=>(vD.lt q I).1;have iz:=λ q I=>(oJ.lt q I).2;have nF:=λ q I=>(oJ.lt q I).1;refine vm Z<|J (ex Z Z)<|J (ex Z Z)<|J (ex Z Z)<|J (ex Z Z)<|va Z<|va Z<|va Z<|va Z<|ai<|aA<|aj<|vm Z<|J (beq Z Z)<|vm Z<|nT Z Z Z<|J (av KB Z)<|nT Z Z Z<| ?_;have ab:=ab.later fb;refine J (ao Z (ab.one bc Z))<|nT Z Z Z<|J (j4 Z Z)<|J (q8 Z Z)<|ai<| ?_;have n':(decide (1000000≤W.now))=false:=by exact aSk (by omega)
 refine hL (by rw [← n'];rfl)<|bt<|aA<|aj<|vm Z<|J (bne Z Z)<|ai<|hL Z<|bt<|aj<|al Z Hi Z Z λ F8 aIg k0 aMi mf=> ?_;have:=k0.size;have vq:=γ hX k0;have aOJ:=mf.lt;refine ai<|aj<| ?_;have ab:=ab.later k0;refine J (ao Z (ab.all du cf))<|vm Z<| ?_;have Cf:=Cf.later k0;refine ca ad7 Z Z ((alf (dP W l (l).length) _ _ a W _ (bV.keep vq) Cf.has).mono ?_);rintro e I9 ⟨a40,sK,vL,rfl,D_,iY,Wz,fV⟩;refine ⟨_,Z, ?_⟩;have:=fV.size;have vt:=γ vq fV;have u9:=λ q I=>(D_.lt q I).2;have tq:=λ q I=>(D_.lt q I).1;have IZ:=λ q I=>(iY.lt q I).2;have Bj:=λ q I=>(iY.lt q I).1;have aI4:∀ q∈κ.ae sK,q∈bq.bX a40→False:=Wz;have aJb:∀ q∈bq.bX a40,q∈κ.ae sK→False:=λ q τ aa=>Wz q aa τ;refine vm Z<|J (ex Z Z)<|J (ex Z Z)<|J (ex Z Z)<| ?_;have ab:=ab.later fV;refine st Z Z ab Z cf Z Z Z λ Nn zz ab=> ?_;have:=zz.size;have qw:=Ext.mod vt zz bu;refine J (av ass Z)<| ?_;have mf:=mf.later fV;have mf:=mf.mod zz aO;refine st (new:= [.slice sK ((tG W (dP W l (l).length)).length) vL, .slice none 0 0, .slice none 0 0]) Z Z mf Z xw Z Z Z λ F' gO mf=> ?_;have:=gO.size;have oD:=Ext.mod qw gO bu;refine ai<|aj<| ?_;have ab:=ab.mod gO aO;refine J (ao Z (ab.all du cf))<|vm Z<| ?_;have vD:=vD.later (γ k0 fV);have vD:=vD.mod zz (bA Mr);have vD:=vD.mod gO (bL Zp);have D_:=D_.mod zz (bA tq);have D_:=D_.mod gO (bA tq);refine ca ast Z Z ((az5 a40 (gG W (dP W l (l).length)) _ _ (ep W l (l).length) _ D_.has vD.has).mono ?_);rintro e Ns ⟨xg,GB,Pb,rfl,nZ,k7,HP,tR⟩;refine ⟨_,Z, ?_⟩;have:=tR.size;have sH:=γ oD tR;have u_:=λ q I=>(nZ.lt q I).2;have Ic:=λ q I=>(nZ.lt q I).1;have BF:=λ q I=>(k7.lt q I).2;have Dc:=λ q I=>(k7.lt q I).1;have aI5:∀ q∈κ.ae GB,q∈bq.bX xg→False:=HP;have aJf:∀ q∈bq.bX xg,q∈κ.ae GB→False:=λ q τ aa=>HP q aa τ;refine vm Z<|J (ex Z Z)<|J (ex Z Z)<|J (ex Z Z)<| ?_;have ab:=ab.later tR;refine st Z Z ab Z cf Z Z Z λ Nt nJ ab=> ?_;have:=nJ.size;have qx:=Ext.mod sH nJ bu;refine J (av asv Z)<| ?_;have mf:=mf.later tR;have mf:=mf.mod nJ aO;refine st (new:= [.slice sK ((tG W (dP W l (l).length)).length) vL, .slice GB ((o8 (gG W (dP W l (l).length)) (ep W l (l).length)).length) Pb, .slice none 0 0]) Z Z mf Z xw Z Z Z λ amb Br mf=> ?_;have:=Br.size;have NR:=Ext.mod qx Br bu;refine ai<|aj<| ?_;have ab:=ab.mod Br aO;refine J (ao Z (ab.all du cf))<|vm Z<| ?_;have oJ:=oJ.later (γ k0 fV);have oJ:=oJ.mod zz (bA nF);have oJ:=oJ.mod gO (bL iz);have oJ:=oJ.later tR;have oJ:=oJ.mod nJ (bA nF);have oJ:=oJ.mod Br (bL iz);have nZ:=nZ.mod nJ (bA Ic);have nZ:=nZ.mod Br (bA Ic);refine ca asw Z Z ((arG (eR W l (l).length) _ _ _ xg (hk (gG W (dP W l (l).length)) (ep W l (l).length)) nZ.has oJ.has).mono ?_);rintro e Nw ⟨lv,Jx,Ux,rfl,mh,n2,af3,dz⟩;refine ⟨_,Z, ?_⟩;have:=dz.size;have rp:=γ NR dz;have Nf:=λ q I=>(mh.lt q I).2;have Fw:=λ q I=>(mh.lt q I).1;have aQh:=λ q I=>(n2.lt q I).2;have Mt:=λ q I=>(n2.lt q I).1;have arn:∀ q∈κ.ae Jx,q∈bq.bX lv→False:=af3;have aJo:∀ q∈bq.bX lv,q∈κ.ae Jx→False:=λ q τ aa=>af3 q aa τ;refine vm Z<|J (ex Z Z)<|J (ex Z Z)<|J (ex Z Z)<| ?_;have ab:=ab.later dz;refine st Z Z ab Z cf Z Z Z λ DG gT ab=> ?_;have:=gT.size;have qz:=Ext.mod rp gT bu;refine J (av asx Z)<| ?_;have mf:=mf.later dz;have mf:=mf.mod gT aO;refine st (new:= [.slice sK ((tG W (dP W l (l).length)).length) vL, .slice GB ((o8 (gG W (dP W l (l).length)) (ep W l (l).length)).length) Pb, .slice Jx (((hk (gG W (dP W l (l).length)) (ep W l (l).length)).vS (eR W l (l).length)).length) Ux]) Z Z mf Z asy Z Z Z λ ZJ uX mf=> ?_;have:=uX.size;have Gu:=Ext.mod qz uX bu;refine ai<|aj<|J (av KB Z)<| ?_;have ab:=ab.mod uX aO;refine J (ao Z (ab.one bc Z))<|J (bad Z Z (bE ((by have I:_∧_:=aw0;unfold u4 zK zJ at I;omega))))<|J (av KB Z)<|st (new:= [.int .i64 (((hk (gG W (dP W l (l).length)) (ep W l (l).length)).iK (eR W l (l).length)).field.wide), .int .i64 (((hk (gG W (dP W l (l).length)) (ep W l (l).length)).iK (eR W l (l).length)).field.high), .slice lv.P (((hk (gG W (dP W l (l).length)) (ep W l (l).length)).iK (eR W l (l).length)).field.aZ.length) lv.p, .slice lv.B (((hk (gG W (dP W l (l).length)) (ep W l (l).length)).iK (eR W l (l).length)).aW.length) lv.b, .slice lv.S (((hk (gG W (dP W l (l).length)) (ep W l (l).length)).iK (eR W l (l).length)).bk.length) lv.s, .slice lv.M (((hk (gG W (dP W l (l).length)) (ep W l (l).length)).iK (eR W l (l).length)).br.length) lv.m, .slice lv.T (((hk (gG W (dP W l (l).length)) (ep W l (l).length)).iK (eR W l (l).length)).ak.length) lv.t, .int .i64 (((hk (gG W (dP W l (l).length)) (ep W l (l).length)).iK (eR W l (l).length)).next), .int .i64 ((((hk (gG W (dP W l (l).length)) (ep W l (l).length)).iK (eR W l (l).length)).now)+1)]) Z Z ab Z dK Z Z Z λ ZK tA ab=> ?_;have:=tA.size;have Gv:=Ext.mod Gu tA bu;refine ai<|aA<| ?_;refine RN [cw] [(0,0),(1,0),(2,2),(3,3)] [0,1,2,3,4] (by kernel_rfl) (by kernel_rfl) ?_;refine ze Z Z (λ _ x=>ao Z ((ab.mod x aO).all du cf)) Z<| ?_;have mf:=mf.mod tA aO;refine ze Z Z (λ _ x=>ao Z ((mf.mod x aO).all PE AO)) Z<| ?_;have ag:=ag.later (γ b9 (γ fb (γ k0 fV)));have ag:=ag.mod zz aO;have ag:=ag.mod gO aO;have ag:=ag.later tR;have ag:=ag.mod nJ aO;have ag:=ag.mod Br aO;have ag:=ag.later dz;have ag:=ag.mod gT aO;have ag:=ag.mod uX aO;have ag:=ag.mod tA aO;refine ES Z Z Z λ SG gu Q hK=>st (new:= [.int .i64 (((hk (gG W (dP W l (l).length)) (ep W l (l).length)).iK (eR W l (l).length)).field.wide), .int .i64 (((hk (gG W (dP W l (l).length)) (ep W l (l).length)).iK (eR W l (l).length)).field.high), .slice lv.P (((hk (gG W (dP W l (l).length)) (ep W l (l).length)).iK (eR W l (l).length)).field.aZ.length) lv.p, .slice lv.B (((hk (gG W (dP W l (l).length)) (ep W l (l).length)).iK (eR W l (l).length)).aW.length) lv.b, .slice lv.S (((hk (gG W (dP W l (l).length)) (ep W l (l).length)).iK (eR W l (l).length)).bk.length) lv.s, .slice lv.M (((hk (gG W (dP W l (l).length)) (ep W l (l).length)).iK (eR W l (l).length)).br.length) lv.m, .slice lv.T (((hk (gG W (dP W l (l).length)) (ep W l (l).length)).iK (eR W l (l).length)).ak.length) lv.t, .int .i64 (((hk (gG W (dP W l (l).length)) (ep W l (l).length)).iK (eR W l (l).length)).next), .int .i64 ((((hk (gG W (dP W l (l).length)) (ep W l (l).length)).iK (eR W l (l).length)).now)+1)]) Z Z (ag.later gu) Z cf Z Z Z λ Jf kS ag=>hK _ _ ⟨(Mod.bC gu).trans kS, ?_⟩;have:=gu.size;have B2:=γ Gv gu;have:=kS.size;have t_:=Ext.mod B2 kS bu;have aI:=aI.later (γ fb (γ k0 fV));have aI:=aI.mod zz aO;have aI:=aI.mod gO aO;have aI:=aI.later tR;have aI:=aI.mod nJ aO;have aI:=aI.mod Br aO;have aI:=aI.later dz;have aI:=aI.mod gT aO;have aI:=aI.mod uX aO;have aI:=aI.mod tA aO;have aI:=aI.later gu;have aI:=aI.mod kS aO;refine Vn Z Z Z λ Nx kb Q hK=>st (new:= [.slice sK ((tG W (dP W l (l).length)).length) vL, .slice GB ((o8 (gG W (dP W l (l).length)) (ep W l (l).length)).length) Pb, .slice Jx (((hk (gG W (dP W l (l).length)) (ep W l (l).length)).vS (eR W l (l).length)).length) Ux]) Z Z (aI.later kb) Z AO Z Z Z λ I5 l1 aI=>hK _ _ ?_;have:=kb.size;have rq:=γ t_ kb;have:=l1.size;have ND:=Ext.mod rq l1 bu;refine jx Z Z (λ _=>fg Z) Z<|PZ λ Su jG=> ?_;have:=jG.size;have zY:=γ ND jG;refine aV<|rt<| ?_;have ag:=ag.later kb;have ag:=ag.mod l1 aO;have ag:=ag.later jG;have aI:=aI.later jG;refine bb (.cell Z (ag.all du cf) (.cell Z (aI.all PE AO) (.tmp Z .nil)))<| ?_;have mh:=mh.mod gT (bA Fw);have mh:=mh.mod uX (bA Fw);have mh:=mh.mod tA (bA Fw);have mh:=mh.later gu;have mh:=mh.mod kS (bA Fw);have mh:=mh.later kb;have mh:=mh.mod l1 (bA Fw);have mh:=mh.later jG;have iY:=iY.mod zz (bA Bj);have iY:=iY.mod gO (bA Bj);have iY:=iY.later tR;have iY:=iY.mod nJ (bA Bj);have iY:=iY.mod Br (bA Bj);have iY:=iY.later dz;have iY:=iY.mod gT (bA Bj);have iY:=iY.mod uX (bA Bj);have iY:=iY.mod tA (bA Bj);have iY:=iY.later gu;have iY:=iY.mod kS (bA Bj);have iY:=iY.later kb;have iY:=iY.mod l1 (bA Bj);have iY:=iY.later jG;have k7:=k7.mod nJ (bA Dc);have k7:=k7.mod Br (bA Dc);have k7:=k7.later dz;have k7:=k7.mod gT (bA Dc);have k7:=k7.mod uX (bA Dc);have k7:=k7.mod tA (bA Dc);have k7:=k7.later gu;have k7:=k7.mod kS (bA Dc);have k7:=k7.later kb;have k7:=k7.mod l1 (bA Dc);have k7:=k7.later jG;have n2:=n2.mod gT (bA Mt);have n2:=n2.mod uX (bA Mt);have n2:=n2.mod tA (bA Mt);have n2:=n2.later gu;have n2:=n2.mod kS (bA Mt);have n2:=n2.later kb;have n2:=n2.mod l1 (bA Mt);have n2:=n2.later jG;obtain ⟨ln,z2,z3,z4⟩:=alr aH;have hR:bq Su w.heap.size lv (ox W l):=by rw [ln];exact (mh.down (by omega)).akQ Z Z Z Z Z ⟨mh.nums.1,mh.nums.2.1,mh.nums.2.2.1,bI.2 (by show _≤(u4 W l).now+1∧(u4 W l).now+1≤_;omega)⟩
 exact ⟨lv,sK,vL,GB,Pb,Jx,Ux,by rw [aH,ln,z2,z3,z4];rfl,hR,by rw [z2];exact iY.down (by omega),by rw [z3];exact k7.down (by omega),by rw [z4];exact n2.down (by omega),λ q I hf=>I.elim (λ I=>by exfalso;(have:=Fw q hf;(have:=IZ q I;omega))) (λ I=>I.elim (λ I=>by exfalso;(have:=Fw q hf;(have:=BF q I;omega))) (λ I=>by exfalso;(exact arn q I hf))),zY⟩
theorem M9 (a:ah.b5) (W:ah) (A:Option Addr) (c:Nat) (l:List aF) (w:World) (bV:ah.Has w a W) (az:aF.rep.aJ 48 w A c l):Calls prog 25 #[.agg (ah.cells a W).toArray, .slice A l.length c] w (ON W l w):=by
 by_cases τ:ou W l=0
 ·by_cases aa:1000000≤W.now
  ·exact aDM a W A c l w bV az τ aa
  ·exact aDN a W A c l w bV az (by unfold h5;rw [aRL (by simpa using τ),aRL aa])
 ·exact aDL a W A c l w bV az τ
end
section
structure Kept (W V:ah):Prop where
 field:V.field=W.field
 aW:V.aW=W.aW
 now:V.now=W.now
 next:V.next=W.next+((V.ak.length:Int) - W.ak.length)
 len:W.ak.length≤V.ak.length
 old:∀ (i:Nat) (t:bf),W.ak[i]? =some t→∃ u:bf,V.ak[i]? =some u∧ {u with load:=t.load}=t
 new:∀ (i:Nat) (u:bf),W.ak.length≤i→V.ak[i]? =some u→W.next≤u.id
theorem Kept.bF (W:ah):Kept W W:=⟨rfl,rfl,rfl,by omega,aRN _,λ i t h=>⟨t,h,rfl⟩,λ i u h hu=>by
 rw [aSR (by omega)] at hu;cases hu⟩
theorem Kept.tH {U V W:ah} (h:Kept U V) (k:Kept V W):Kept U W where
 field:=k.field.trans h.field
 aW:=k.aW.trans h.aW
 now:=k.now.trans h.now
 next:=by rw [k.next,h.next];omega
 len:=aR5 h.len k.len
 old i t aG:=by
  obtain ⟨u,hu,e⟩:=h.old i t aG;obtain ⟨x,hx,bj⟩:=k.old i u hu;refine ⟨x,hx, ?_⟩;rw [← e,← bj]
 new i u aq hu:=by
  by_cases τ:i<V.ak.length
  ·obtain ⟨t,aG⟩:=iN τ;obtain ⟨x,hx,e⟩:=k.old i t aG;rw [hu] at hx;obtain rfl:=aRA hx;have:=h.new i t aq aG;have cV:t.id=u.id:=by rw [← e]
   omega
  ·have aa:=k.new i u (by omega) hu;have:=h.next;have:=h.len;omega
theorem Kept.getD {W V:ah} (h:Kept W V) {i:Nat} (aq:i<W.ak.length): {V.ak.getD i default with load:=(W.ak.getD i default).load}=W.ak.getD i default:=by
 obtain ⟨t,aG⟩:=iN aq;obtain ⟨u,hu,e⟩:=h.old i t aG;rw [aRB,aRB,aG,hu];exact e
def ajV:List cn→List Bool→List cn
 | d::l,b::cX=>if b then d::ajV l cX else ajV l cX
 | _,_=> []
end
section
theorem alg {W:ah} (h:W.bo=0):gG W []=W∧tG W []= []:=by
 have a_:=Ui (l:= []) h (by decide);have hS:=alh a_;have fC:fB W []=List.replicate W.ak.length 0:=by unfold fB;rw [a_];rfl
 have hu:Bc W []=W.ak:=by
  apply aTf;intro i;cases aG:W.ak[i]? with
  | none =>
   have:=List.getElem?_eq_none_iff.1 aG;rw [aSR (by rw [QV];exact this)]
  | some t =>
   rw [QU aG,fC];have:(List.replicate W.ak.length (0:Int)).getD i 0=0:=by
    rw [aRB,aSH];split<;>rfl
   rw [this,Int.sub_zero]
 have hf:∀ t∈W.ak,0<t.c0:=λ t aG=>by have:=(hS.jM.each aG).2.2.c0;omega
 constructor
 ·rw [hS.bV,hu,aU9.2 λ t aG=>aSe (hf t aG)]
 ·rw [hS.bB,hu,List.filter_eq_nil_iff.2 λ t aG=>by simp [hf t aG]];rfl
theorem ala {f:aE} {T:List bf}:∀ k,jR f [] T k=(T, [])
 | 0=>rfl
 | k+1=>F0 (ala k) (alc (by show fT _ ([]:List dm)<0;unfold fT;simp))
theorem azI {W:ah} (h:W.bo=0):hk W []=W∧o8 W []= []:=by
 obtain ⟨a_,bj,cV⟩:=Rk (W:=W) (l:= []) h (by decide);rw [bj,cV];unfold ah.l6;rw [ala];exact ⟨Z,Z⟩
def nS:List aF:= [⟨0,3,1,⟨2,0⟩,0⟩]
def Zh:ah:=⟨⟨3,1, [0,0,3]⟩, [⟨0,0⟩], [20], [0,0,8], [⟨1,0,1,⟨1,0⟩,10,1⟩],2,1⟩
theorem Zl:h5 kW nS=0∧ox kW nS=Zh∧zM kW nS= []∧zN kW nS= []∧zL kW nS= [true]:=by
 have hc:kW.bo=0:=by decide +kernel
 have adY:dP kW nS nS.length= []:=by decide +kernel
 have aey:ep kW nS nS.length= []:=by decide +kernel
 have adZ:eR kW nS nS.length= [⟨1,1,⟨2,0⟩,0⟩]:=by decide +kernel
 have a_:h5 kW nS=0:=by decide +kernel
 obtain ⟨ln,z2,z3,z4⟩:=alr a_;obtain ⟨s1,s2⟩:=alg hc;have t1:zJ kW nS=kW:=by unfold zJ;rw [adY];exact s1
 obtain ⟨m1,m2⟩:=azI hc;have t2:zK kW nS=kW:=by unfold zK;rw [t1,aey];exact m1
 have t3:u4 kW nS=kW.iK [⟨1,1,⟨2,0⟩,0⟩]:=by unfold u4;rw [t2,adZ]
 have hd:kW.iK [⟨1,1,⟨2,0⟩,0⟩]= {Zh with now:=0}:=by decide +kernel
 refine ⟨a_, ?_, ?_, ?_, ?_⟩
 ·rw [ln,t3,hd];rfl
 ·rw [z2,adY];exact s2
 ·rw [z3,t1,aey];exact m2
 ·rw [z4,t2,adZ];decide +kernel
end
section
structure gZ where
 a:Option Addr
 n:Nat
 c:Nat
instance:Inhabited gZ:=⟨⟨none,0,0⟩⟩
def ov:κ gZ:=κ.flat 1 (λ v=> [.slice v.a v.n v.c]) (λ _=>True) (λ _ u=>∃ a n c,u= .slice a n c) (λ _=>rfl) (by intro a u hu;simp at hu;subst hu;rfl) (by
 intro a j u hu;cases j with
 | zero=>simp at hu;exact ⟨_,_,_,hu.symm⟩
 | succ j=>simp at hu)
theorem Qq {w:World} {cs:List Value} {a:gZ} (h:ov.has w cs a):cs= [.slice a.a a.n a.c]:=aTI (show cs= [.slice a.a a.n a.c]∧True from h)
theorem YP:∀ (j:Nat) u,(Value.slice none 0 0).cells[j]? =some u→ov.raw j u:=by
 intro j u hu;have hu:(#[(.slice none 0 0:Value)]:Array Value)[j]? =some u:=hu
 match j,hu with
 | 0,hu=>exact ⟨_,_,_,(aRA hu).symm⟩
 | j+1,hu=>simp at hu
end
end Go.Proofs.YtlikikpgmmkjbaaGreat
