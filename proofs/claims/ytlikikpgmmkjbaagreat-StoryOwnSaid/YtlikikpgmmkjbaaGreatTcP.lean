import Derived.Test.YtlikikpgmmkjbaaGreatOrwZ
set_option linter.unusedVariables false
set_option linter.unusedSimpArgs false
set_option maxRecDepth 100000
set_option maxHeartbeats 4000000
namespace Go.Proofs.YtlikikpgmmkjbaaGreat
open Tryz
section
open Go.RowKit
def uz (W:ae) (k:Nat):List (Int×Int):=(W.ag.take k).map λ t=>(t.id,t.owner)
theorem aqY {W:ae} {k:Nat} (h:k<W.ag.length):uz W (k+1)=uz W k++ [((W.ag.getD k default).id,(W.ag.getD k default).owner)]:=by
 unfold uz;rw [zP (d:=default) h,List.map_append];rfl
theorem aq1 {W:ae} (bq:Good W) {k:Nat} (h:k<W.ag.length):cq (uz W k) (W.ag.getD k default).id=none:=by
 unfold cq uz;rw [List.find?_map,Option.map_eq_none_iff,Option.map_eq_none_iff,List.find?_eq_none];intro x hx;obtain ⟨i,ao,e⟩:=List.mem_iff_getElem.1 hx;rw [List.length_take] at ao;rw [List.getElem_take] at e;have:=(List.pairwise_iff_getElem.1 bq.Eh) i k (by omega) h (by omega);rw [← e,nI h];have γ:=this.1;simp only [Function.comp_apply,beq_iff_eq];omega
def may (W:ae) (o:aI):Bool:=if o.kind=5 then decide (o.by_<(W.aY.length:Int)) && (o.by_ == o.by_) else (cq (uz W W.ag.length) o.aL).isSome && ((cq (uz W W.ag.length) o.aL).getD 0 == o.by_)
def dm (W:ae) (l:List aI) (k:Nat):List cR:=(l.take k).flatMap λ o=>if may W o=true then lF o else []
theorem Sd {W:ae} {l:List aI} {k:Nat} (h:k<l.length) (hm:may W (l.getD k default)=true):dm W l (k+1)=dm W l k++lF (l.getD k default):=by
 unfold dm;rw [zP (d:=default) h,List.flatMap_append,List.flatMap_cons,List.flatMap_nil,List.append_nil,if_pos hm]
theorem Sc {W:ae} {l:List aI} {k:Nat} (h:k<l.length) (hm:may W (l.getD k default)=false):dm W l (k+1)=dm W l k:=by
 unfold dm;rw [zP (d:=default) h,List.flatMap_append,List.flatMap_cons,List.flatMap_nil,List.append_nil,if_neg (by rw [hm];decide),List.append_nil]
theorem acU (W:ae) (l:List aI):∀ k,(dm W l k).length≤k
 | 0=>by simp [dm]
 | k+1=>by
  have bk:=acU W l k;by_cases h:k<l.length
  ·cases hm:may W (l.getD k default) with
   | true=>rw [Sd h hm,List.length_append];have:(lF (l.getD k default)).length≤1:=(by unfold lF;(repeat' split)<;>simp);omega
   | false=>rw [Sc h hm];omega
  ·have:dm W l (k+1)=dm W l k:=by unfold dm;rw [List.take_of_length_le (by omega),List.take_of_length_le (by omega)]
   rw [this];omega
def dD (W:ae) (l:List aI) (k:Nat):List cS:=(l.take k).flatMap λ o=>if may W o=true then lH o else []
theorem Sh {W:ae} {l:List aI} {k:Nat} (h:k<l.length) (hm:may W (l.getD k default)=true):dD W l (k+1)=dD W l k++lH (l.getD k default):=by
 unfold dD;rw [zP (d:=default) h,List.flatMap_append,List.flatMap_cons,List.flatMap_nil,List.append_nil,if_pos hm]
theorem Sg {W:ae} {l:List aI} {k:Nat} (h:k<l.length) (hm:may W (l.getD k default)=false):dD W l (k+1)=dD W l k:=by
 unfold dD;rw [zP (d:=default) h,List.flatMap_append,List.flatMap_cons,List.flatMap_nil,List.append_nil,if_neg (by rw [hm];decide),List.append_nil]
theorem acW (W:ae) (l:List aI):∀ k,(dD W l k).length≤k
 | 0=>by simp [dD]
 | k+1=>by
  have bk:=acW W l k;by_cases h:k<l.length
  ·cases hm:may W (l.getD k default) with
   | true=>rw [Sh h hm,List.length_append];have:(lH (l.getD k default)).length≤1:=(by unfold lH;(repeat' split)<;>simp);omega
   | false=>rw [Sg h hm];omega
  ·have:dD W l (k+1)=dD W l k:=by unfold dD;rw [List.take_of_length_le (by omega),List.take_of_length_le (by omega)]
   rw [this];omega
def dZ (W:ae) (l:List aI) (k:Nat):List b1:=(l.take k).flatMap λ o=>if may W o=true then lG o else []
theorem Sf {W:ae} {l:List aI} {k:Nat} (h:k<l.length) (hm:may W (l.getD k default)=true):dZ W l (k+1)=dZ W l k++lG (l.getD k default):=by
 unfold dZ;rw [zP (d:=default) h,List.flatMap_append,List.flatMap_cons,List.flatMap_nil,List.append_nil,if_pos hm]
theorem Se {W:ae} {l:List aI} {k:Nat} (h:k<l.length) (hm:may W (l.getD k default)=false):dZ W l (k+1)=dZ W l k:=by
 unfold dZ;rw [zP (d:=default) h,List.flatMap_append,List.flatMap_cons,List.flatMap_nil,List.append_nil,if_neg (by rw [hm];decide),List.append_nil]
theorem acV (W:ae) (l:List aI):∀ k,(dZ W l k).length≤k
 | 0=>by simp [dZ]
 | k+1=>by
  have bk:=acV W l k;by_cases h:k<l.length
  ·cases hm:may W (l.getD k default) with
   | true=>rw [Sf h hm,List.length_append];have:(lG (l.getD k default)).length≤1:=(by unfold lG;(repeat' split)<;>simp);omega
   | false=>rw [Se h hm];omega
  ·have:dZ W l (k+1)=dZ W l k:=by unfold dZ;rw [List.take_of_length_le (by omega),List.take_of_length_le (by omega)]
   rw [this];omega
theorem acX (W:ae) (l:List aI) (k:Nat):(dm W l k).length≤k∧(dD W l k).length≤k∧(dZ W l k).length≤k:=⟨acU W l k,acW W l k,acV W l k⟩
theorem Ep (A:Option Addr) (c:Nat) (l:List aI) (oZ:ae.b6) (W:ae) (w:World) (az:aI.rep.aH 48 w A c l) (bs:ae.Has w oZ W):
  Calls prog 60 #[.slice A l.length c, .agg ((ae.cells oZ W).toArray)] w (λ e w'=>∃ fQ bL cb c1 cC c2,((iT l≠0∧e= .returned (.tuple #[.slice none 0 0, .slice none 0 0, .slice none 0 0, .int .i64 (iT l)]))∨(iT l=0∧W.bh≠0∧e= .returned (.tuple #[.slice none 0 0, .slice none 0 0, .slice none 0 0, .int .i64 W.bh]))∨(iT l=0∧W.bh=0∧e= .returned (.tuple #[.slice fQ (dm W l l.length).length bL, .slice cb (dD W l l.length).length c1, .slice cC (dZ W l l.length).length c2, .int .i64 0])∧cR.rep.aF 223 16 w' w.heap.size (κ.af fQ) fQ bL (dm W l l.length)∧cS.rep.aF 225 24 w' w.heap.size (κ.af cb) cb c1 (dD W l l.length)∧b1.rep.aF 178 40 w' w.heap.size (κ.af cC) cC c2 (dZ W l l.length)))∧Ext w w'):=by
 have ot:=az.ez;refine cv (n:=82) func60 Z Z Z ?_;refine aj<|cI Z Z Z Z λ dw bC bg eY ab=> ?_;have:=bg.size;have br:=τ (Ext.bM w) bg;have eZ:=ab.lt;refine va Z<|va Z<|va Z<|va Z<|ah<|aD<|aj<|vm Z<|ca Ov Z Z ((Rq _ _ l _ (az.keep br)).mono ?_);rintro e eB ⟨rfl,dn⟩;refine ⟨_,Z, ?_⟩;have:=dn.size;have bS:=τ br dn;refine va Z<|ah<|aj<|vm Z<|J (bne Z Z)<|ah<| ?_;refine hg Z (λ jh=> ?_) (λ jh=> ?_)
 ·refine aj<|vm Z<|va Z<|va Z<|va Z<|va Z<|ah<|rt<|cf<|bp (.tmp Z (.tmp Z (.tmp Z (.tmp Z .nil))))<| ?_;exact ⟨none,0,none,0,none,0, .inl ⟨jh,Z⟩,bS⟩
 ·obtain ⟨amX,_⟩:=HI (by simpa using jh);refine bx<|aD<|aj<| ?_;have ab:=ab.later dn;refine J (ak Z (ab.all dr b2))<|ca Df Z Z ((yF oZ W _ (bs.keep bS)).mono ?_);rintro e B' ⟨rfl,eC⟩;refine ⟨_,Z, ?_⟩;have:=eC.size;have n9:=τ bS eC;refine va Z<|ah<|aj<|vm Z<|J (bne Z Z)<|ah<| ?_;refine hg Z (λ kD=> ?_) (λ kD=> ?_)
  ·refine aj<|vm Z<|va Z<|va Z<|va Z<|va Z<|ah<|rt<|cf<|bp (.tmp Z (.tmp Z (.tmp Z (.tmp Z .nil))))<| ?_;exact ⟨none,0,none,0,none,0, .inr (.inl ⟨by simpa using jh,kD,rfl⟩),n9⟩
  ·have bq:=Good.zD (by simpa using kD);have Bz:=bq.eo;have K1:=bq.jn;refine bx<|aj<|Rm Z λ xT pD h_ ao2 UF=> ?_;have:=h_.size;have j6:=τ n9 h_;have ab8:=UF.lt;refine va Z<|ah<|aD<|aj<|J (aw iB Z)<| ?_;have ab:=ab.later (τ eC h_);refine J (ak Z (ab.one jW Z))<|J (cW underlying26 Z)<|vm Z<|ah<|bP<| ?_;refine fe (λ ck ch aS=>∃ k:Nat,ch= [(0, .slice A l.length c),(3, .pointer (some ⟨bC,0,none⟩)),(4, .slice none 0 0),(5, .slice none 0 0),(6, .slice none 0 0),(7, .int .i64 0),(10, .map (some pD)),(30, .slice oZ.T W.ag.length oZ.t),(31, .int .i64 (W.ag.length:Int)),(32, .int .i64 (k:Int))]∧ck=W.ag.length - k∧Ext w aS∧aK aS bC (ae.cells oZ W) 28 (0,0)∧nA aS pD (uz W k)∧(k≤W.ag.length)) _ _ ⟨0,Z,Z,j6,ab,UF,by omega⟩ (.cons Z (.cons Z (.cons Z (.cons Z (.cons Z (.cons Z (.cons Z (.cons Z (.cons Z (.cons (bX Z (by first | omega | rfl | (simp<;>omega))) .nil)))))))))) ?_;rintro oz aw8 H5 ⟨k,rfl,rfl,n_,ab,fI,av⟩;have:=n_.size;have ar0:=ab.lt;have LR:=fI.lt;refine aj<|J (blt Z Z)<|ah<|aD<| ?_;refine ef Z (λ alT=> ?_) (λ alT=> ?_)
   ·refine bx<|aD<|bP<|aj<|J (bY k underlying26 h2 Z Z ((bs.T.keep n_).bA (a8 k (by omega))) Z (by omega))<|J (ak Z (κ.aH.ic ih ((bs.T.keep n_).cL (a8 k (by omega))) (dO (l:=W.ag) (u:=default) (by omega)) vu h2))<|al Z FX Z Z λ xW Vw gM aaZ sV=> ?_;have:=gM.size;have nt:=τ n_ gM;have ab9:=sV.lt;refine st (new:= [.int .i64 ((W.ag.getD k default).id), .int .i64 ((W.ag.getD k default).owner), .int .i64 ((W.ag.getD k default).kind), .int .i64 ((W.ag.getD k default).spot.x), .int .i64 ((W.ag.getD k default).spot.y), .int .i64 ((W.ag.getD k default).cG), .int .i64 ((W.ag.getD k default).load)]) Z Z sV Z h2 Z Z Z λ Cc uj sV=> ?_;have:=uj.size;have nv:=Ext.mod nt uj (bR (by omega));have:=uj.size;refine ah<|rg<|vm Z<|J (aw Dg Z)<|J (ak Z (sV.one aZ Z))<|J (aw A7 Z)<|J (ak Z (sV.one aZ Z))<| ?_;have fI:=fI.later gM;have fI:=fI.mod uj (bb (by omega));refine mu underlying167 underlying3 fI (aq1 bq (by omega)) Z Z Z λ ave uk fI=> ?_;have:=uk.size;have Tl:=Ext.mod nv uk (bR (by omega));have:=uk.size;refine nl<|cg<|a6<|rg<|J (bad Z Z (bF (by omega)))<|vm Z<|nl<| ?_;have aU:uz W (k+1)=uz W k++ [((W.ag.getD k default).id,(W.ag.getD k default).owner)]:=aqY (by omega);have ab:=ab.later gM;have ab:=ab.mod uj (bb (by omega));have ab:=ab.mod uk (bb (by omega));exact du _ _ ⟨k+1,Z,Z,Tl,ab,(by rw [aU];exact fI),by omega⟩ (by omega) (.cons Z (.cons Z (.cons Z (.cons Z (.cons Z (.cons Z (.cons Z (.cons Z (.cons Z (.cons (bX Z (by first | omega | rfl | (simp<;>omega))) .nil))))))))))
   ·refine dG<|dF<|eb<|dE<|a6<|aj<|al Z aje Z Z λ EG pX wg ao8 wy=> ?_;have:=wg.size;have rK:=τ n_ wg;have ar8:=wy.lt;refine ah<|aD<|aj<|vm Z<|J (cW underlying44 Z)<|vm Z<|ah<|bP<| ?_;have o6:k=W.ag.length:=by omega
    subst o6;have ab:=ab.later wg;have fI:=fI.later wg;refine fe (λ ck ch aS=>∃ j:Nat,∃ fQ:Option Addr,∃ bL:Nat,∃ cb:Option Addr,∃ c1:Nat,∃ cC:Option Addr,∃ c2:Nat,ch= [(3, .pointer (some ⟨bC,0,none⟩)),(4, .slice none 0 0),(5, .slice none 0 0),(6, .slice none 0 0),(7, .int .i64 0),(10, .map (some pD)),(13, .pointer (some ⟨pX,0,none⟩)),(42, .slice A l.length c),(43, .int .i64 (l.length:Int)),(44, .int .i64 (j:Int))]∧ck=l.length - j∧Ext w aS∧aK aS bC (ae.cells oZ W) 28 (0,0)∧nA aS pD (uz W W.ag.length)∧aK aS pX [.slice fQ ((dm W l j).length) bL, .slice cb ((dD W l j).length) c1, .slice cC ((dZ W l j).length) c2] 169 (0,0)∧cR.rep.aF 223 16 aS w.heap.size (κ.af fQ) fQ bL (dm W l j)∧cS.rep.aF 225 24 aS w.heap.size (κ.af cb) cb c1 (dD W l j)∧b1.rep.aF 178 40 aS w.heap.size (κ.af cC) cC c2 (dZ W l j)∧(j≤l.length)∧(∀ q∈κ.af fQ,q=bC→False)∧(∀ q∈κ.af fQ,q=pD→False)∧(∀ q∈κ.af fQ,q=pX→False)∧(∀ q∈κ.af cb,q=bC→False)∧(∀ q∈κ.af cb,q=pD→False)∧(∀ q∈κ.af cb,q=pX→False)∧(∀ q∈κ.af cb,q∈κ.af fQ→False)∧(∀ q∈κ.af cC,q=bC→False)∧(∀ q∈κ.af cC,q=pD→False)∧(∀ q∈κ.af cC,q=pX→False)∧(∀ q∈κ.af cC,q∈κ.af fQ→False)∧(∀ q∈κ.af cC,q∈κ.af cb→False)) _ _ ⟨0,none,0,none,0,none,0,Z,Z,rK,ab,fI,wy,(κ.aF.nil _),(κ.aF.nil _),(κ.aF.nil _),by omega,(λ q I Φ=>by (simp [κ.af] at I)),(λ q I Φ=>by (simp [κ.af] at I)),(λ q I Φ=>by (simp [κ.af] at I)),(λ q I Φ=>by (simp [κ.af] at I)),(λ q I Φ=>by (simp [κ.af] at I)),(λ q I Φ=>by (simp [κ.af] at I)),(λ q I Φ=>by (simp [κ.af] at I)),(λ q I Φ=>by (simp [κ.af] at I)),(λ q I Φ=>by (simp [κ.af] at I)),(λ q I Φ=>by (simp [κ.af] at I)),(λ q I Φ=>by (simp [κ.af] at I)),(λ q I Φ=>by (simp [κ.af] at I))⟩ (.cons Z (.cons Z (.cons Z (.cons Z (.cons Z (.cons Z (.cons Z (.cons Z (.cons Z (.cons (bX Z (by first | omega | rfl | (simp<;>omega))) .nil)))))))))) ?_;rintro oA axn SL ⟨j,fQ,bL,cb,c1,cC,c2,rfl,rfl,rN,ab,fI,ba,hZ,h0,h1,ay,C',Da,wY,tz,lg,o2,q0,l5,l6,yJ,wZ,JR⟩;have:=rN.size;have RI:=ab.lt;have RJ:=fI.lt;have ace:=ba.lt;have Mm:=λ q I=>(hZ.lt q I).2;have qo:=λ q I=>(h0.lt q I).2;have H0:=λ q I=>(h1.lt q I).2;have p':=acX W l j;refine aj<|J (blt Z Z)<|ah<|aD<| ?_;refine ef Z (λ PS=> ?_) (λ PS=> ?_)
    ·have xn:=aI.AU az _ (lz (d:=default) (show j<l.length by omega));refine bx<|aD<|bP<|aj<|J (bY j underlying44 e6 Z Z ((az.keep rN).bA (a8 j (by omega))) Z (by omega))<|J (ak Z (κ.aH.ic Gr ((az.keep rN).cL (a8 j (by omega))) (dO (l:=l) (u:=default) (by omega)) je e6))<|al Z JY Z Z λ adV ayo kK aB4 qJ=> ?_;have:=kK.size;have Iw:=τ rN kK;have aEv:=qJ.lt;refine st (new:= [.int .i64 ((l.getD j default).by_), .int .i64 ((l.getD j default).kind), .int .i64 ((l.getD j default).aL), .int .i64 ((l.getD j default).spot.x), .int .i64 ((l.getD j default).spot.y), .int .i64 ((l.getD j default).what)]) Z Z qJ Z e6 Z Z Z λ aGv ki qJ=> ?_;have:=ki.size;have MM:=Ext.mod Iw ki (bR (by omega));have:=ki.size;refine ah<|aj<|vm Z<|J (aw yL Z)<|J (ak Z (qJ.one aZ Z))<| ?_;have fI:=fI.later kK;have fI:=fI.mod ki (bb (by omega));refine J (lk underlying167 underlying3 OJ fI Z Z)<|vm Z<|J (ex Z Z)<|J (ex Z Z)<|va Z<|va Z<|ah<|aD<|aj<|J (aw nG Z)<|J (ak Z (qJ.one aZ Z))<|J (beq Z Z)<|ah<| ?_;refine l3 Z (λ sa=> ?_) (λ sa=> ?_)
     ·refine rd [(1,0),(3,0),(5,0)] [0,1,2,3,4,5,6,7,8,9] (by kernel_rfl) (by kernel_rfl) ?_;refine aq Z (λ _=>aw w1 Z)<|bD Z (λ _ x=>ak Z ((qJ.later x).one aZ Z))<|aq Z (λ _=>aw w1 Z)<|bD Z (λ _ x=>ak Z ((qJ.later x).one aZ Z))<|aq Z (λ _=>aw q3 Z)<| ?_;have ab:=ab.later kK;have ab:=ab.mod ki (bb (by omega));refine bD Z (λ _ x=>ak Z ((ab.later x).one tC Z))<|aq Z (λ _=>cW underlying25 Z)<|aq Z (λ _=>blt Z Z)<|aq Z (λ _=>eV Z)<|aq Z (λ _=>eV Z)<|fn λ H_ ec=> ?_;have:=ec.size;have kt:=τ MM ec;refine a6<|aj<|vm Z<|vm Z<|bB Z Z Z Z (λ hc=>aJ Z) Z<|bB Z Z Z Z (λ hc=>aw w1 Z) Z<| ?_;have qJ:=qJ.later ec;refine bB Z Z Z Z (λ hc=>ak (gt hc Z) (qJ.one aZ Z)) Z<|bB Z Z Z Z (λ hc=>beq (gt hc Z) (gt hc Z)) Z<|J (eA Z Z Z Z)<|ah<| ?_;refine fk Z (λ PT=> ?_) (λ PT=> ?_)
      ·have pg:may W (l.getD j default)=true:=by unfold may;rw [if_pos sa];rw [← PT]
       refine rg<|J (ak Z (qJ.all je e6))<| ?_;have ba:=ba.later kK;have ba:=ba.mod ki (bb (by omega));have ba:=ba.later ec;have hZ:=hZ.later kK;have hZ:=hZ.mod ki (cj Mm (by omega));have hZ:=hZ.later ec;have h0:=h0.later kK;have h0:=h0.mod ki (cj qo (by omega));have h0:=h0.later ec;have h1:=h1.later kK;have h1:=h1.mod ki (cj H0 (by omega));have h1:=h1.later ec;have alo:∀ q∈(pX::(κ.af fQ++(κ.af cb++κ.af cC))),w.heap.size≤q:=by
        intro q I;simp only [List.mem_cons,List.mem_append] at I;rcases I with I | I | I | I
        ·omega
        ·exact (hZ.lt q I).1
        ·exact (h0.lt q I).1
        ·exact (h1.lt q I).1
       refine ca Xb Z Z ((Vj (l.getD j default) w pX _ _ _ _ _ _ _ _ _ _ kt xn ba hZ h0 h1 (λ q I Φ=>by (exact wY q I Φ)) (λ q I Φ=>by (exact o2 q I Φ)) (λ q I Φ=>by (exact yJ q I Φ)) (λ q I Φ=>by (exact q0 q I Φ)) (λ q I Φ=>by (exact wZ q I Φ)) (λ q I Φ=>by (exact JR q I Φ)) (by omega) (by omega) (by omega)).mono ?_);rintro e adY ⟨aeU,aho,aeV,ahp,aeW,ahq,rfl,IN,U9,U_,U',aiO,aiP,aiQ,aiE,aiF,aiG,XV,XW,XX,xA⟩;refine ⟨_,Z, ?_⟩;have:=xA.size;have Iy:=Ext.mod kt xA alo;have adz:=λ q I=>(U9.lt q I).2;have auw:=λ q I=>(U_.lt q I).2;have aFw:=λ q I=>(U'.lt q I).2;refine nl<|cg<|a6<|rg<|J (bad Z Z (bF (by omega)))<|vm Z<|nl<| ?_;have bc:dm W l (j+1)=dm W l j++lF (l.getD j default):=Sd (by omega) pg;have cy:dD W l (j+1)=dD W l j++lH (l.getD j default):=Sh (by omega) pg;have jd:dZ W l (j+1)=dZ W l j++lG (l.getD j default):=Sf (by omega) pg;have ab:=ab.later ec;have aqs:bC∉(pX::(κ.af fQ++(κ.af cb++κ.af cC))):=by
        intro I;simp only [List.mem_cons,List.mem_append] at I;rcases I with I | I | I | I
        ·omega
        ·exact (λ q (γ:q∈κ.af fQ) (aa:q=bC)=>show False by (exact C' q γ aa)) _ I Z
        ·exact (λ q (γ:q∈κ.af cb) (aa:q=bC)=>show False by (exact tz q γ aa)) _ I Z
        ·exact (λ q (γ:q∈κ.af cC) (aa:q=bC)=>show False by (exact l5 q γ aa)) _ I Z
       have ab:=ab.mod xA aqs;have fI:=fI.later ec;have aqt:pD∉(pX::(κ.af fQ++(κ.af cb++κ.af cC))):=by
        intro I;simp only [List.mem_cons,List.mem_append] at I;rcases I with I | I | I | I
        ·omega
        ·exact (λ q (γ:q∈κ.af fQ) (aa:q=pD)=>show False by (exact Da q γ aa)) _ I Z
        ·exact (λ q (γ:q∈κ.af cb) (aa:q=pD)=>show False by (exact lg q γ aa)) _ I Z
        ·exact (λ q (γ:q∈κ.af cC) (aa:q=pD)=>show False by (exact l6 q γ aa)) _ I Z
       have fI:=fI.mod xA aqt;exact du _ _ ⟨j+1,aeU,aho,aeV,ahp,aeW,ahq,Z,Z,Iy,ab,fI,(by rw [bc,cy,jd];exact IN),(by rw [bc];exact U9),(by rw [cy];exact U_),(by rw [jd];exact U'),by omega,(λ q I Φ=>by (exact Or.elim (XV q I) (λ G9=>by (exact C' q G9 Φ)) (λ G9=>by omega))),(λ q I Φ=>by (exact Or.elim (XV q I) (λ G_=>by (exact Da q G_ Φ)) (λ G_=>by omega))),(λ q I Φ=>by (exact aiO q I Φ)),(λ q I Φ=>by (exact Or.elim (XW q I) (λ zj=>by (exact tz q zj Φ)) (λ zj=>by omega))),(λ q I Φ=>by (exact Or.elim (XW q I) (λ G'=>by (exact lg q G' Φ)) (λ G'=>by omega))),(λ q I Φ=>by (exact aiP q I Φ)),(λ q I Φ=>by (exact aiE q I Φ)),(λ q I Φ=>by (exact Or.elim (XX q I) (λ Ha=>by (exact l5 q Ha Φ)) (λ Ha=>by omega))),(λ q I Φ=>by (exact Or.elim (XX q I) (λ Hb=>by (exact l6 q Hb Φ)) (λ Hb=>by omega))),(λ q I Φ=>by (exact aiQ q I Φ)),(λ q I Φ=>by (exact aiF q I Φ)),(λ q I Φ=>by (exact aiG q I Φ))⟩ (by omega) (.cons Z (.cons Z (.cons Z (.cons Z (.cons Z (.cons Z (.cons Z (.cons Z (.cons Z (.cons (bX Z (by first | omega | rfl | (simp<;>omega))) .nil))))))))))
      ·have pg:may W (l.getD j default)=false:=by unfold may;rw [if_pos sa];rw [← PT]
       refine hk<|cg<|a6<|rg<|J (bad Z Z (bF (by omega)))<|vm Z<|nl<| ?_;have bc:dm W l (j+1)=dm W l j:=Sc (by omega) pg;have cy:dD W l (j+1)=dD W l j:=Sg (by omega) pg;have jd:dZ W l (j+1)=dZ W l j:=Se (by omega) pg;have ab:=ab.later ec;have fI:=fI.later ec;have ba:=ba.later kK;have ba:=ba.mod ki (bb (by omega));have ba:=ba.later ec;have hZ:=hZ.later kK;have hZ:=hZ.mod ki (cj Mm (by omega));have hZ:=hZ.later ec;have h0:=h0.later kK;have h0:=h0.mod ki (cj qo (by omega));have h0:=h0.later ec;have h1:=h1.later kK;have h1:=h1.mod ki (cj H0 (by omega));have h1:=h1.later ec;exact du _ _ ⟨j+1,fQ,bL,cb,c1,cC,c2,Z,Z,kt,ab,fI,(by rw [bc,cy,jd];exact ba),(by rw [bc];exact hZ),(by rw [cy];exact h0),(by rw [jd];exact h1),by omega,(λ q I Φ=>by (exact C' q I Φ)),(λ q I Φ=>by (exact Da q I Φ)),(λ q I Φ=>by (exact wY q I Φ)),(λ q I Φ=>by (exact tz q I Φ)),(λ q I Φ=>by (exact lg q I Φ)),(λ q I Φ=>by (exact o2 q I Φ)),(λ q I Φ=>by (exact q0 q I Φ)),(λ q I Φ=>by (exact l5 q I Φ)),(λ q I Φ=>by (exact l6 q I Φ)),(λ q I Φ=>by (exact yJ q I Φ)),(λ q I Φ=>by (exact wZ q I Φ)),(λ q I Φ=>by (exact JR q I Φ))⟩ (by omega) (.cons Z (.cons Z (.cons Z (.cons Z (.cons Z (.cons Z (.cons Z (.cons Z (.cons Z (.cons (bX Z (by first | omega | rfl | (simp<;>omega))) .nil))))))))))
     ·refine bx<|aj<|vm Z<|vm Z<|bB Z Z Z Z (λ hc=>aJ Z) Z<|bB Z Z Z Z (λ hc=>aw w1 Z) Z<|bB Z Z Z Z (λ hc=>ak (gt hc Z) (qJ.one aZ Z)) Z<|bB Z Z Z Z (λ hc=>beq (gt hc Z) (gt hc Z)) Z<|J (eA Z Z Z Z)<|ah<| ?_;refine fk Z (λ Bb=> ?_) (λ Bb=> ?_)
      ·have pg:may W (l.getD j default)=true:=by unfold may;rw [if_neg sa];rw [← Bb]
       refine rg<|J (ak Z (qJ.all je e6))<| ?_;have ba:=ba.later kK;have ba:=ba.mod ki (bb (by omega));have hZ:=hZ.later kK;have hZ:=hZ.mod ki (cj Mm (by omega));have h0:=h0.later kK;have h0:=h0.mod ki (cj qo (by omega));have h1:=h1.later kK;have h1:=h1.mod ki (cj H0 (by omega));have aln:∀ q∈(pX::(κ.af fQ++(κ.af cb++κ.af cC))),w.heap.size≤q:=by
        intro q I;simp only [List.mem_cons,List.mem_append] at I;rcases I with I | I | I | I
        ·omega
        ·exact (hZ.lt q I).1
        ·exact (h0.lt q I).1
        ·exact (h1.lt q I).1
       refine ca Xb Z Z ((Vj (l.getD j default) w pX _ _ _ _ _ _ _ _ _ _ MM xn ba hZ h0 h1 (λ q I Φ=>by (exact wY q I Φ)) (λ q I Φ=>by (exact o2 q I Φ)) (λ q I Φ=>by (exact yJ q I Φ)) (λ q I Φ=>by (exact q0 q I Φ)) (λ q I Φ=>by (exact wZ q I Φ)) (λ q I Φ=>by (exact JR q I Φ)) (by omega) (by omega) (by omega)).mono ?_);rintro e B9 ⟨aeA,ag5,aeB,ag6,aeC,ag7,rfl,ae0,UR,US,UT,aiL,aiM,aiN,aiB,aiC,aiD,XP,XQ,XR,mb⟩;refine ⟨_,Z, ?_⟩;have:=mb.size;have Ij:=Ext.mod MM mb aln;have aub:=λ q I=>(UR.lt q I).2;have aEV:=λ q I=>(US.lt q I).2;have aEW:=λ q I=>(UT.lt q I).2;refine nl<|cg<|a6<|rg<|J (bad Z Z (bF (by omega)))<|vm Z<|nl<| ?_;have bc:dm W l (j+1)=dm W l j++lF (l.getD j default):=Sd (by omega) pg;have cy:dD W l (j+1)=dD W l j++lH (l.getD j default):=Sh (by omega) pg;have jd:dZ W l (j+1)=dZ W l j++lG (l.getD j default):=Sf (by omega) pg;have ab:=ab.later kK;have ab:=ab.mod ki (bb (by omega));have aqq:bC∉(pX::(κ.af fQ++(κ.af cb++κ.af cC))):=by
        intro I;simp only [List.mem_cons,List.mem_append] at I;rcases I with I | I | I | I
        ·omega
        ·exact (λ q (γ:q∈κ.af fQ) (aa:q=bC)=>show False by (exact C' q γ aa)) _ I Z
        ·exact (λ q (γ:q∈κ.af cb) (aa:q=bC)=>show False by (exact tz q γ aa)) _ I Z
        ·exact (λ q (γ:q∈κ.af cC) (aa:q=bC)=>show False by (exact l5 q γ aa)) _ I Z
       have ab:=ab.mod mb aqq;have aqr:pD∉(pX::(κ.af fQ++(κ.af cb++κ.af cC))):=by
        intro I;simp only [List.mem_cons,List.mem_append] at I;rcases I with I | I | I | I
        ·omega
        ·exact (λ q (γ:q∈κ.af fQ) (aa:q=pD)=>show False by (exact Da q γ aa)) _ I Z
        ·exact (λ q (γ:q∈κ.af cb) (aa:q=pD)=>show False by (exact lg q γ aa)) _ I Z
        ·exact (λ q (γ:q∈κ.af cC) (aa:q=pD)=>show False by (exact l6 q γ aa)) _ I Z
       have fI:=fI.mod mb aqr;exact du _ _ ⟨j+1,aeA,ag5,aeB,ag6,aeC,ag7,Z,Z,Ij,ab,fI,(by rw [bc,cy,jd];exact ae0),(by rw [bc];exact UR),(by rw [cy];exact US),(by rw [jd];exact UT),by omega,(λ q I Φ=>by (exact Or.elim (XP q I) (λ ZO=>by (exact C' q ZO Φ)) (λ ZO=>by omega))),(λ q I Φ=>by (exact Or.elim (XP q I) (λ ZP=>by (exact Da q ZP Φ)) (λ ZP=>by omega))),(λ q I Φ=>by (exact aiL q I Φ)),(λ q I Φ=>by (exact Or.elim (XQ q I) (λ zk=>by (exact tz q zk Φ)) (λ zk=>by omega))),(λ q I Φ=>by (exact Or.elim (XQ q I) (λ Hc=>by (exact lg q Hc Φ)) (λ Hc=>by omega))),(λ q I Φ=>by (exact aiM q I Φ)),(λ q I Φ=>by (exact aiB q I Φ)),(λ q I Φ=>by (exact Or.elim (XR q I) (λ Hd=>by (exact l5 q Hd Φ)) (λ Hd=>by omega))),(λ q I Φ=>by (exact Or.elim (XR q I) (λ He=>by (exact l6 q He Φ)) (λ He=>by omega))),(λ q I Φ=>by (exact aiN q I Φ)),(λ q I Φ=>by (exact aiC q I Φ)),(λ q I Φ=>by (exact aiD q I Φ))⟩ (by omega) (.cons Z (.cons Z (.cons Z (.cons Z (.cons Z (.cons Z (.cons Z (.cons Z (.cons Z (.cons (bX Z (by first | omega | rfl | (simp<;>omega))) .nil))))))))))
      ·have pg:may W (l.getD j default)=false:=by unfold may;rw [if_neg sa];rw [← Bb]
       refine hk<|cg<|a6<|rg<|J (bad Z Z (bF (by omega)))<|vm Z<|nl<| ?_;have bc:dm W l (j+1)=dm W l j:=Sc (by omega) pg;have cy:dD W l (j+1)=dD W l j:=Sg (by omega) pg;have jd:dZ W l (j+1)=dZ W l j:=Se (by omega) pg;have ab:=ab.later kK;have ab:=ab.mod ki (bb (by omega));have ba:=ba.later kK;have ba:=ba.mod ki (bb (by omega));have hZ:=hZ.later kK;have hZ:=hZ.mod ki (cj Mm (by omega));have h0:=h0.later kK;have h0:=h0.mod ki (cj qo (by omega));have h1:=h1.later kK;have h1:=h1.mod ki (cj H0 (by omega));exact du _ _ ⟨j+1,fQ,bL,cb,c1,cC,c2,Z,Z,MM,ab,fI,(by rw [bc,cy,jd];exact ba),(by rw [bc];exact hZ),(by rw [cy];exact h0),(by rw [jd];exact h1),by omega,(λ q I Φ=>by (exact C' q I Φ)),(λ q I Φ=>by (exact Da q I Φ)),(λ q I Φ=>by (exact wY q I Φ)),(λ q I Φ=>by (exact tz q I Φ)),(λ q I Φ=>by (exact lg q I Φ)),(λ q I Φ=>by (exact o2 q I Φ)),(λ q I Φ=>by (exact q0 q I Φ)),(λ q I Φ=>by (exact l5 q I Φ)),(λ q I Φ=>by (exact l6 q I Φ)),(λ q I Φ=>by (exact yJ q I Φ)),(λ q I Φ=>by (exact wZ q I Φ)),(λ q I Φ=>by (exact JR q I Φ))⟩ (by omega) (.cons Z (.cons Z (.cons Z (.cons Z (.cons Z (.cons Z (.cons Z (.cons Z (.cons Z (.cons (bX Z (by first | omega | rfl | (simp<;>omega))) .nil))))))))))
    ·refine dG<|dF<|eb<|dE<|a6<|aD<| ?_;refine rd [(1,0),(3,0),(5,0)] [0,1,2,3,4,5,6,7,8,9] (by kernel_rfl) (by kernel_rfl) ?_;refine aq Z (λ _=>aw Oq Z)<|bD Z (λ _ x=>ak Z ((ba.later x).one W_ Z))<|aq Z (λ _=>aw Ot Z)<|bD Z (λ _ x=>ak Z ((ba.later x).one W' Z))<|aq Z (λ _=>aw A5 Z)<|bD Z (λ _ x=>ak Z ((ba.later x).one J0 Z))<|aq Z (λ _=>eV Z)<|aq Z (λ _=>eV Z)<|aq Z (λ _=>eV Z)<|aq Z (λ _=>eV Z)<|fn λ aFM Ie=> ?_;have:=Ie.size;have av2:=τ rN Ie;refine a6<|rt<|bp (.tmp Z (.tmp Z (.tmp Z (.tmp Z .nil))))<| ?_;have hZ:=hZ.later Ie;have h0:=h0.later Ie;have h1:=h1.later Ie;have akl:j=l.length:=by omega
     subst akl;exact ⟨fQ,bL,cb,c1,cC,c2, .inr (.inr ⟨by simpa using jh,by simpa using kD,rfl,hZ,h0,h1⟩),av2⟩
end
section
open Go.RowKit
def k1 (W:ae) (l:List aI):Int:=if iT l≠0 then iT l else W.bh
theorem L5 {W:ae} {l:List aI} (h:k1 W l=0):iT l=0∧W.bh=0:=by
 unfold k1 at h;split at h
 ·rename_i γ;exact absurd h γ
 ·rename_i γ;exact ⟨by simpa using γ,h⟩
theorem atg {W:ae} {l:List aI} (h:k1 W l=0):l.length≤100:=(HI (L5 h).1).1
theorem ath (A:Option Addr) (c:Nat) (l:List aI) (oZ:ae.b6) (W:ae) (w:World) (az:aI.rep.aH 48 w A c l) (bs:ae.Has w oZ W) (h:k1 W l≠0):Calls prog 60 #[.slice A l.length c, .agg (ae.cells oZ W).toArray] w (λ e w'=>e= .returned (.tuple #[.slice none 0 0, .slice none 0 0, .slice none 0 0, .int .i64 (k1 W l)])∧Ext w w'):=by
 refine (Ep A c l oZ W w az bs).mono λ e w' he=> ?_;obtain ⟨fQ,bL,cb,c1,cC,c2,(⟨γ,aa⟩ | ⟨γ,aa,au⟩ | ⟨γ,aa,_⟩),hx⟩:=he
 ·exact ⟨by rw [aa];unfold k1;rw [if_pos γ],hx⟩
 ·exact ⟨by rw [au];unfold k1;rw [if_neg (by simpa using γ)],hx⟩
 ·exact absurd (by unfold k1;rw [if_neg (by simpa using γ)];exact aa) h
theorem acY (A:Option Addr) (c:Nat) (l:List aI) (oZ:ae.b6) (W:ae) (w:World) (az:aI.rep.aH 48 w A c l) (bs:ae.Has w oZ W) (h:k1 W l=0):Calls prog 60 #[.slice A l.length c, .agg (ae.cells oZ W).toArray] w (λ e w'=>∃ fQ bL cb c1 cC c2,e= .returned (.tuple #[.slice fQ (dm W l l.length).length bL, .slice cb (dD W l l.length).length c1, .slice cC (dZ W l l.length).length c2, .int .i64 0])∧cR.rep.aF 223 16 w' w.heap.size (κ.af fQ) fQ bL (dm W l l.length)∧cS.rep.aF 225 24 w' w.heap.size (κ.af cb) cb c1 (dD W l l.length)∧b1.rep.aF 178 40 w' w.heap.size (κ.af cC) cC c2 (dZ W l l.length)∧Ext w w'):=by
 obtain ⟨b7,a2⟩:=L5 h;refine (Ep A c l oZ W w az bs).mono λ e w' he=> ?_;obtain ⟨fQ,bL,cb,c1,cC,c2,(⟨γ,aa⟩ | ⟨γ,aa,au⟩ | ⟨γ,aa,au,a1,bO,b_⟩),hx⟩:=he
 ·exact absurd b7 γ
 ·exact absurd a2 aa
 ·exact ⟨fQ,bL,cb,c1,cC,c2,au,a1,bO,b_,hx⟩
end
section
open Go.RowKit
section
variable {F:List Nat} {P:Program} {ops:Array Oper} {Q:Exit→Act→World→Prop} {aR:Nat→Nat}
def rV (F:List Nat) (P:Program) (ops:Array Oper) (w0:World) (o:Oper) (v:Value) (a:Act):Prop :=
  (Region.wanted o (yielded ops a.tmps)=true∧∀ w,Mod F w0 w→vN P w v ((execOp a.eval o).run P w))∨
  (Region.wanted o (yielded ops a.tmps)=false∧v=undef)
theorem rV.of_same {w0:World} {o:Oper} {v:Value} {a a':Act} (h:rV F P ops w0 o v a) (he:execOp a'.eval o=execOp a.eval o) (hw:Region.wanted o (yielded ops a'.tmps)=Region.wanted o (yielded ops a.tmps)):rV F P ops w0 o v a':=by
  unfold rV at *;rw [he,hw];exact h
theorem rV.on {w0 aM:World} {o:Oper} {v:Value} {a:Act} (h:rV F P ops w0 o v a) (hx:Mod F w0 aM):rV F P ops aM o v a :=
  h.imp (λ ⟨γ,aa⟩=>⟨γ,λ w hw=>aa w (hx.trans hw)⟩) id
theorem Yields.asj {w0:World} {o:Oper} {v:Value} {a:Act} (h:Yields P ops o v a):rV F P ops w0 o v a :=
  h.imp (λ ⟨γ,aa⟩=>⟨γ,λ w _=>by rw [aa w];exact ⟨rfl,rfl⟩⟩) id
def atu (F:List Nat) (P:Program) (ops:Array Oper) (Q:Exit→Act→World→Prop) (aR:Nat→Nat) (i:Nat) (K:Act→World→Prop) (a:Act) (w0:World):Prop :=
  ∃ o,ops[i]? =some o∧
    ((aR i≤1∧∃ v,rV F P ops w0 o v a∧K (a.put o.dst v) w0)∨
     (1<aR i∧∀ w,Ext w0 w→wpOp P ops Q i (λ a' w'=>(aR i=2→Mod F w0 w')∧K a' w') a w))
def FE (F:List Nat) (P:Program) (ops:Array Oper) (Q:Exit→Act→World→Prop) (aR:Nat→Nat):Nat→Array Bool→Act→World→Prop
  | 0,l,a,w0=>Region.ready .any ops l= []∧∀ w,Ext w0 w→Q .normal a w
  | f+1,l,a,w0=>(Region.ready .any ops l= []→∀ w,Ext w0 w→Q .normal a w)∧∀ i∈Region.ready .any ops l,atu F P ops Q aR i (FE F P ops Q aR f (l.setIfInBounds i true)) a w0
theorem C0:∀ (f:Nat) (l:Array Bool) (a:Act) (w0:World),FE F P ops Q aR f l a w0→∀ w,Ext w0 w→wpAny P .any ops Q f l a w
  | 0,_,_,_,h,w,hw=>⟨h.1,h.2 w hw⟩
  | f+1,l,a,w0,h,w,hw=>⟨λ aE=>h.1 aE w hw,λ i ao=>by
      obtain ⟨o,bJ,aa⟩:=h.2 i ao;rcases aa with ⟨_,v,I,av⟩ | ⟨_,aa⟩
      · unfold wpOp
        simp only [bJ];rcases I with ⟨mS,I⟩ | ⟨mS,rfl⟩
        · rw [if_pos mS]
          refine .inl ?_;have I:=I w (Mod.bG hw);unfold Oper.wp;generalize (execOp a.eval o).run P w=r at *
          cases r with
          | ok n w' =>
            cases n<;>simp only [vN] at I<;>simp only [Oper.upon]
            case value u=>obtain ⟨rfl,rfl⟩:=I;exact C0 f _ _ _ av _ hw
            case skip=>obtain ⟨rfl,rfl⟩:=I;exact C0 f _ _ _ av _ hw
            case enter f' args=>obtain ⟨rfl,hc⟩:=I;exact hc.mono λ e lK ⟨he,hx⟩=>by subst he;exact C0 f _ _ _ av _ (hw.iK hx)
          | halt x w'=>simp only [vN] at I
        · rw [if_neg (by rw [mS];decide)]
          exact C0 f _ _ _ av _ hw
      · exact wpOp_mono (λ a' w' au=>C0 f _ _ _ au.2 _ (Ext.bM w')) (aa w hw)⟩
theorem XD {i:Nat} {dX:Oper} {v:Value} (ao:ops[i]? =some dX) (av:aR i≤1) (lr:∀ (j:Nat) (o:Oper) cs b,ops[j]? =some o→o.op≠ .select cs b)
    (gK:∀ c a w,¬ Q (.panic c) a w) (aB:World→Act→Prop) (jv:∀ w0 a,aB w0 a→rV F P ops w0 dX v a)
    (z2:∀ w0 a a',aB w0 a→execOp a'.eval dX=execOp a.eval dX→Region.wanted dX (yielded ops a'.tmps)=Region.wanted dX (yielded ops a.tmps)→aB w0 a')
    (z3:∀ w0 aM a,Mod F w0 aM→aB w0 a→aB aM a) (R:Nat→Bool) (tY:Array Bool)
    (hR:∀ j cQ,ops[j]? =some cQ→j≠i→(∀ e∈cQ.after,Region.binds .any e=true→R e.on=true)→R j=true)
    (aX:(∀ w0 aM a,aB w0 a→aB aM a)∨∀ j,R j=true→3≤aR j→tY.getD j true=true):
    ∀ (f:Nat) (l:Array Bool) (a:Act) (w0:World),(∀ j,l.getD j false=true→R j=true)→(∀ j,tY.getD j true=true→l.getD j true=true)→
      (∀ j cQ,ops[j]? =some cQ→j≠i→l.getD j true=false→(∀ e∈cQ.after,Region.binds .any e=true→e.on≠i)→dX.apart ops cQ=true)→
      i∈Region.ready .any ops l→aB w0 a→FE F P ops Q aR f (l.setIfInBounds i true) (a.put dX.dst v) w0→FE F P ops Q aR (f+1) l a w0:=by
  intro f;induction f with
  | zero =>
    intro l a w0 _ _ _ hr bw H;refine ⟨λ h=>(by rw [h] at hr;cases hr),λ j ay=> ?_⟩;by_cases gw:j=i
    · subst gw;exact ⟨dX,ao, .inl ⟨av,v,jv _ _ bw,H⟩⟩
    · have:=ready_mono ay gw
      rw [H.1] at this;cases this
  | succ f bk =>
    intro l a w0 y7 y5 y1 hr bw H;refine ⟨λ h=>(by rw [h] at hr;cases hr),λ j ay=> ?_⟩;by_cases gw:j=i
    · subst gw;exact ⟨dX,ao, .inl ⟨av,v,jv _ _ bw,H⟩⟩
    · obtain ⟨cQ,jj,γ⟩:=H.2 j (ready_mono ay gw)
      obtain ⟨tR,fw,zc,di⟩:=mem_ready.1 ay;obtain rfl:fw=cQ:=by rw [jj] at zc;exact (Option.some.inj zc).symm
      have GJ:∀ e∈fw.after,Region.binds .any e=true→e.on≠i:=λ e he Φ heq=>by
        have γ:=di e he Φ;have aE:=(mem_ready.1 hr).1;rw [heq] at γ;rcases Nat.lt_or_ge i l.size with cU | cU
        · simp [cU] at aE γ;rw [aE] at γ;cases γ
        · simp [Array.getElem?_eq_none cU] at γ
      have Gj:=y1 j fw jj gw tR GJ;obtain ⟨b7,a2,a3⟩:=Oper.apart_spec Gj;have GY:∀ cs b,dX.op≠ .select cs b:=λ cs b=>lr i dX cs b ao;have tV:∀ cs b,fw.op≠ .select cs b:=λ cs b=>lr j fw cs b jj;have keep:∀ aM a u,aB aM a→aB aM (a.put fw.dst u):=λ aM a u bw=>z2 _ _ _ bw (execOp_put dX GY a fw.dst u a3) (wanted_put dX a fw.dst u a3);have yU:R j=true:=hR j fw jj gw λ e he Φ=>y7 _ (di e he Φ);have y8:∀ k,(l.setIfInBounds j true).getD k false=true→R k=true:=λ k av=>by
        by_cases gx:j=k
        · rw [← gx];exact yU
        · rw [getD_set_ne false gx] at av;exact y7 k av
      have y6:∀ k,tY.getD k true=true→(l.setIfInBounds j true).getD k true=true:=λ k av=>by
        by_cases gx:j=k
        · subst gx
          rcases Nat.lt_or_ge j l.size with cU | cU
          · simp [cU]
          · simp [Array.getElem?_eq_none cU]
        · rw [getD_set_ne true gx];exact y5 k av
      have y2:∀ k ok,ops[k]? =some ok→k≠i→(l.setIfInBounds j true).getD k true=false→
          (∀ e∈ok.after,Region.binds .any e=true→e.on≠i)→dX.apart ops ok=true:=λ k ok av nO zg ji=>by
        refine y1 k ok av nO ?_ ji;by_cases gx:j=k
        · subst gx;exact tR
        · rw [getD_set_ne true gx] at zg;exact zg
      have zf:=ready_mono hr (Ne.symm gw);rcases γ with ⟨tS,u,I,hK⟩ | ⟨tS,γ⟩
      · refine ⟨fw,jj, .inl ⟨tS,u,I.of_same (execOp_put fw tV a dX.dst v b7).symm (wanted_put fw a dX.dst v b7).symm, ?_⟩⟩
        refine bk _ _ _ y8 y6 y2 zf (keep _ _ _ bw) ?_;rw [Array.setIfInBounds_comm _ _ gw,← Act.put_comm a v u a2];exact hK
      · refine ⟨fw,jj, .inr ⟨tS,λ w hw=> ?_⟩⟩
        refine wpOp_mono (λ a' w' au=>⟨au.2.1, ?_⟩) (SX (aB:=aB w0) jj b7 a2 tV gK (keep w0) (λ a d bw=>z2 _ _ _ bw Z Z) bw (γ w hw));have G4:aB w' a':=by
          rcases Nat.lt_or_ge (aR j) 3 with bl | sf
          · exact z3 _ _ _ (au.2.1 (by omega)) au.1
          · rcases aX with aX | aX
            · exact aX _ _ _ au.1
            · have:=y5 j (aX j yU sf);rw [tR] at this;cases this
        refine bk _ _ _ y8 y6 y2 zf G4 ?_;rw [Array.setIfInBounds_comm _ _ gw];exact au.2.2
def EM (F:List Nat) (P:Program) (ops:Array Oper) (Q:Exit→Act→World→Prop) (aR:Nat→Nat):List Nat→Act→World→Prop
  | [],a,w0=>∀ w,Ext w0 w→Q .normal a w
  | i::r,a,w0=>∃ o,ops[i]? =some o∧
      ((aR i=0∧∃ v,rV F P ops w0 o v a∧EM F P ops Q aR r (a.put o.dst v) w0)∨
       (aR i=1∧∃ v,Yields P ops o v a∧EM F P ops Q aR r (a.put o.dst v) w0)∨
       (1<aR i∧∀ w,Ext w0 w→wpOp P ops Q i (λ a' w'=>(aR i=2→Mod F w0 w')∧EM F P ops Q aR r a' w') a w))
theorem Jh (hs:Region.noSelect ops=true) (gK:∀ c a w,¬ Q (.panic c) a w):∀ (r:List Nat) (l:Array Bool) (a:Act) (w0:World),l.size=ops.size→iP ops aR r l=true→EM F P ops Q aR r a w0→FE F P ops Q aR r.length l a w0
  | [],l,a,w0,_,aX,h=>⟨by simpa [iP] using aX,h⟩
  | i::r,l,a,w0,az,aX,h=>by
    obtain ⟨o,bJ,h⟩:=h;have lr:=Region.noSelect_spec hs;rcases h with ⟨av,v,I,hK⟩ | ⟨av,v,I,hK⟩ | ⟨av,h⟩
    · simp only [iP,av,Bool.and_eq_true] at aX
      obtain ⟨⟨⟨hf,hr⟩,Φ⟩,aX⟩:=aX;obtain ⟨R,r1,r2,uC⟩:=Jq az Φ;exact XD bJ (by omega) lr gK (λ w0 a=>rV F P ops w0 o v a) (λ _ _ h=>h) (λ _ _ _ h he hw=>h.of_same he hw) (λ _ _ _ hx h=>h.on hx) R l r1 (.inr uC) _ _ _ _ r2 (λ _ h=>h) (Region.free_spec bJ hf) (by simpa using hr) I
        (Jh hs gK r _ _ _ (by simpa using az) aX hK)
    · simp only [iP,av,Bool.and_eq_true] at aX
      obtain ⟨⟨hf,hr⟩,aX⟩:=aX;exact XD bJ (by omega) lr gK (λ _ a=>Yields P ops o v a) (λ _ _ h=>Yields.asj h) (λ _ _ _ h he hw=>h.of_same he hw) (λ _ _ _ _ h=>h) (λ _=>true) l (λ _ _ _ _ _=>Z) (.inl λ _ _ _ h=>h) _ _ _ _ (λ _ _=>Z) (λ _ h=>h) (Region.free_spec bJ hf) (by simpa using hr) I
        (Jh hs gK r _ _ _ (by simpa using az) aX hK)
    · obtain ⟨k,gP⟩:∃ k,aR i=k+2:=⟨aR i - 2,by omega⟩
      simp only [iP,gP,Bool.and_eq_true,beq_iff_eq] at aX;obtain ⟨hr,aX⟩:=aX;refine ⟨λ aE=>(by rw [hr] at aE;cases aE),λ j ay=> ?_⟩;rw [hr] at ay;obtain rfl:j=i:=by simpa using ay
      exact ⟨o,bJ, .inr ⟨av,λ w hw=>wpOp_mono (λ a' w' au=>⟨au.1,Jh hs gK r _ _ _ (by simpa using az) aX au.2⟩) (h w hw)⟩⟩
theorem asx {id:Nat} {a:Act} {w:World} (bN:List Nat) (hm:P.follows .mixedOrders=true) (aX:(Region.noSelect ops && (bN.length == ops.size) && iP ops aR bN (Array.replicate ops.size false))=true)
    (h:EM F P ops (fX (Q .normal)) aR bN a w):(Code.region id ops true).wp P Q a w:=by
  simp only [Bool.and_eq_true,beq_iff_eq] at aX;obtain ⟨⟨hs,az⟩,aX⟩:=aX;refine wp_mono (wp_region_any hm (Q:=fX (Q .normal)) ?_) (λ e a w I=>by cases e<;>first | exact I | exact I.elim);have:=Jh (P:=P) hs (Q:=fX (Q .normal)) (λ _ _ _ h=>h) bN (Array.replicate ops.size false) a w (by simp) aX h;rw [az] at this;exact C0 _ _ _ _ this _ (Below.refl _ w).drew
end
section
variable {F:List Nat} {P:Program} {n:Nat} {E cE:List (Nat×Value)} {a:Act} {w w' w0 aM:World} {Q:Exit→Act→World→Prop} {ops:Array Oper} {v:Value} {aR:Nat→Nat}
variable {d:Option Nat} {ty:TypeId} {pos:String} {bn:Array Edge} {g:Option (Nat×Bool)} {x y z:Operand} {t:TypeId} {rest:List Oper} {bN:List Nat} {i:Nat}
def u0 (F:List Nat) (P:Program) (n:Nat) (ops:Array Oper) (Q:Exit→Act→World→Prop) (aR:Nat→Nat) (bN:List Nat) (E:List (Nat×Value)) (w0:World):Prop:=∀ a,dH n E a→EM F P ops (fX (Q .normal)) aR bN a w0
theorem asu {id:Nat} (F:List Nat) (kY:List (Nat×Nat)) (bN:List Nat) (hm:P.follows .mixedOrders=true) (aX:(Region.noSelect ops && (bN.length == ops.size) && iP ops (mV kY) bN (Array.replicate ops.size false))=true)
    (h:u0 F P n ops Q (mV kY) bN E w):W P n (.region id ops true) Q E w:=λ a ha=>asx bN hm aX (h a ha)
theorem akF (h:∀ w,Ext w0 w→N n Q E w):u0 F P n ops Q aR [] E w0:=λ a ha w hw=>h w hw a ha
theorem XN {d:Nat} {op:Op} (ao:ops[i]? =some ⟨some d,op,ty,pos,bn,none⟩) (av:aR i=0) (hr:∀ w,Mod F w0 w→c8 P E ⟨some d,op,ty,pos,bn,none⟩ w v w) (hd:Nat.blt d n=true)
    (h:u0 F P n ops Q aR bN ((d,v)::E) w0):u0 F P n ops Q aR (i::bN) E w0:=λ a ha =>
  ⟨_,ao, .inl ⟨av,v, .inl ⟨xZ rfl,λ w hw=>by rw [hr w hw n a ha];exact ⟨rfl,rfl⟩⟩,h _ (ha.put hd v)⟩⟩
theorem ak0 {d:Nat} {op:Op} (ao:ops[i]? =some ⟨some d,op,ty,pos,bn,none⟩) (av:aR i=1) (hr:∀ w,c8 P E ⟨some d,op,ty,pos,bn,none⟩ w v w) (hd:Nat.blt d n=true)
    (h:u0 F P n ops Q aR bN ((d,v)::E) w0):u0 F P n ops Q aR (i::bN) E w0:=λ a ha =>
  ⟨_,ao, .inr (.inl ⟨av,v, .inl ⟨xZ rfl,λ w=>hr w n a ha⟩,h _ (ha.put hd v)⟩)⟩
theorem ak1 {o:Oper} (aO:o.guard=none) (ao:ops[i]? =some o) (av:aR i=2) (h:∀ w,Ext w0 w→AS P n ops o E w λ cE w'=>Mod F w0 w'∧u0 F P n ops Q aR bN cE w'):u0 F P n ops Q aR (i::bN) E w0:=λ a ha =>
  ⟨_,ao, .inr (.inr ⟨by omega,λ w hw=>Er aO ao (h w hw) (λ cE w' a' av o_=>⟨λ _=>av.1,av.2 a' o_⟩) ha⟩)⟩
theorem akr {o:Oper} (aO:o.guard=none) (ao:ops[i]? =some o) (av:aR i=3) (h:∀ w,Ext w0 w→AS P n ops o E w λ cE w'=>u0 F P n ops Q aR bN cE w'):u0 F P n ops Q aR (i::bN) E w0:=λ a ha =>
  ⟨_,ao, .inr (.inr ⟨by omega,λ w hw=>Er aO ao (h w hw) (λ cE w' a' av o_=>⟨λ aa=>by omega,av a' o_⟩) ha⟩)⟩
end
end
section
open Go.RowKit
def gQ (W:ae) (l:List aI):Int:=if k1 W l≠0 then k1 W l else if 1000000≤W.now then 6 else 0
def rA (W:ae) (l:List aI):ae:=fx W (dm W l l.length)
noncomputable def rB (W:ae) (l:List aI):ae:=fN (rA W l) (dD W l l.length)
noncomputable def qm (W:ae) (l:List aI):ae:=(rB W l).gI (dZ W l l.length)
noncomputable def mq (W:ae) (l:List aI):ae:=if gQ W l≠0 then ae.zero else {qm W l with now:=(qm W l).now+1}
def vW (W:ae) (l:List aI):List Int:=if gQ W l≠0 then [] else ql W (dm W l l.length)
noncomputable def vX (W:ae) (l:List aI):List Int:=if gQ W l≠0 then [] else mj (rA W l) (dD W l l.length)
noncomputable def vV (W:ae) (l:List aI):List Bool:=if gQ W l≠0 then [] else (rB W l).p1 (dZ W l l.length)
theorem adj {W:ae} {l:List aI} (h:gQ W l≠0):mq W l=ae.zero∧vW W l= []∧vX W l= []∧vV W l= []:=by
 unfold mq vW vX vV;simp only [if_pos h,and_self]
theorem Ss {W:ae} {l:List aI} (h:gQ W l=0):mq W l= {qm W l with now:=(qm W l).now+1}∧vW W l=ql W (dm W l l.length)∧vX W l=mj (rA W l) (dD W l l.length)∧vV W l=(rB W l).p1 (dZ W l l.length):=by
 have cU:¬ gQ W l≠0:=by simpa using h
 unfold mq vW vX vV;simp only [if_neg cU,and_self]
theorem Sq {W:ae} {l:List aI} (h:gQ W l=0):k1 W l=0∧W.now<1000000∧W.bh=0∧l.length≤100:=by
 unfold gQ at h;split at h
 ·contradiction
 ·rename_i γ
  have γ:k1 W l=0:=by simpa using γ
  split at h
  ·exact nomatch h
  ·exact ⟨γ,by omega,(L5 γ).2,atg γ⟩
theorem aiu {W:ae} {l:List b1} (h:W.bh=0) (az:l.length≤200):W.o3 l=0∧W.gI l=(W.gC l).1:=by
 have e:W.o3 l=0:=by unfold ae.o3;rw [if_neg (by omega),if_neg (by omega)]
 exact ⟨e,by unfold ae.gI;rw [if_pos e]⟩
theorem N1 {W:ae} {l:List cR} (h:W.bh=0) (az:l.length≤200):kA W l=0:=by unfold kA;rw [if_neg (by omega),if_neg (by omega)]
theorem at2 {W:ae} {l:List aI} (h:gQ W l=0):kA W (dm W l l.length)=0∧px (rA W l) (dD W l l.length)=0∧(rB W l).o3 (dZ W l l.length)=0∧Good (rA W l)∧Good (rB W l)∧Good (qm W l):=by
 obtain ⟨γ,aa,au,a1⟩:=Sq h;obtain ⟨kR,eF,fK⟩:=acX W l l.length;have aU:=N1 (l:=dm W l l.length) au (by omega);have g1:Good (rA W l):=(ac8 aU).right;have bc:=(Lu (W:=rA W l) (l:=dD W l l.length) g1.bh (by omega)).1;have g2:Good (rB W l):=(apS bc).1;obtain ⟨cy,jd⟩:=aiu (W:=rB W l) (l:=dZ W l l.length) g2.bh (by omega);refine ⟨aU,bc,cy,g1,g2, ?_⟩;unfold qm;rw [jd];exact g2.gC _
def Je (W:ae) (l:List aI) (w:World) (e:Ending) (w':World):Prop :=
 ∃ a' fQ bL cb c1 cC c2,e= .returned (.tuple #[.agg (ae.cells a' (mq W l)).toArray, .agg #[.slice fQ (vW W l).length bL, .slice cb (vX W l).length c1, .slice cC (vV W l).length c2], .int .i64 (gQ W l)])∧bf w' w.heap.size a' (mq W l)∧
  bz.aF 3 8 w' w.heap.size (κ.af fQ) fQ bL (vW W l)∧bz.aF 3 8 w' w.heap.size (κ.af cb) cb c1 (vX W l)∧vS.aF 4 1 w' w.heap.size (κ.af cC) cC c2 (vV W l)∧
  (∀ q,(q∈κ.af fQ∨q∈κ.af cb∨q∈κ.af cC)→q∉bf.b4 a')∧Ext w w'
theorem atZ (a:ae.b6) (W:ae) (A:Option Addr) (c:Nat) (l:List aI) (w:World) (bs:ae.Has w a W) (az:aI.rep.aH 48 w A c l) (γ:k1 W l≠0):
  Calls prog 25 #[.agg ((ae.cells a W).toArray), .slice A l.length c] w (Je W l w):=by
 have dk:(k1 W l == 0)=false:=by simpa using γ
 have ea:(k1 W l != 0)=true:=by simpa using γ
 refine cv (n:=62) func25 Z Z Z ?_;refine aj<|cI Z Z Z Z λ dw bC bg eY ab=> ?_;have:=bg.size;have br:=τ (Ext.bM w) bg;have eZ:=ab.lt;refine al Z l8 Z Z λ eB c_ bj iF ai=> ?_;have:=bj.size;have bS:=τ br bj;have iJ:=ai.lt;refine al Z FU Z Z λ iW hb b0 qa a7=> ?_;have:=b0.size;have dp:=τ bS b0;have pC:=a7.lt;refine va Z<|ah<|aj<|vm Z<| ?_;have ab:=ab.later (τ bj b0);refine J (ak Z (ab.all dr b2))<|ca Ow Z Z ((ath _ _ l a W _ (az.keep dp) (bs.keep dp) γ).mono ?_);rintro e oD ⟨rfl,dA⟩;refine ⟨_,Z, ?_⟩;have:=dA.size;have fG:=τ dp dA;refine vm rfl<|J (ex rfl rfl)<|J (ex rfl rfl)<|J (ex rfl rfl)<|J (ex rfl rfl)<|va rfl<|va rfl<|va rfl<|va rfl<|ah<|aD<|aj<|vm rfl<|J (beq rfl rfl)<|vm (fC rfl dk)<|bB (v:=undef) rfl rfl rfl rfl (λ hc=>nomatch hc) rfl<|bB (v:=undef) rfl rfl rfl rfl (λ hc=>nomatch hc) rfl<|bB (v:=undef) rfl rfl rfl rfl (λ hc=>nomatch hc) rfl<|J (qj rfl rfl)<|ah<|gq rfl<| ?_;refine bx<|aD<|aj<|vm Z<|J (bne Z Z)<|ah<|fL (fC Z ea)<|aj<|J (v:= .agg #[.int .i64 0, .int .i64 0, .slice none 0 0, .slice none 0 0, .slice none 0 0, .slice none 0 0, .slice none 0 0, .int .i64 0, .int .i64 0]) (cO Z (by kernel_rfl))<|J (v:= .agg #[.slice none 0 0, .slice none 0 0, .slice none 0 0]) (cO Z (by kernel_rfl))<|vm Z<| ?_;have ai:=ai.later (τ b0 dA);refine st (new:= [.int .i64 0, .int .i64 0, .slice none 0 0, .slice none 0 0, .slice none 0 0, .slice none 0 0, .slice none 0 0, .int .i64 0, .int .i64 0]) Z Z ai Z b2 Z Z Z λ sD rk ai=> ?_;have:=rk.size;have iM:=Ext.mod fG rk (bR (by omega));have:=rk.size;have a7:=a7.later dA;have a7:=a7.mod rk (bb (by omega));refine st (new:= [.slice none 0 0, .slice none 0 0, .slice none 0 0]) Z Z a7 Z yO Z Z Z λ wb ss a7=> ?_;have:=ss.size;have iN:=Ext.mod iM ss (bR (by omega));have:=ss.size;refine va Z<|ah<|rt<|cf<| ?_;have ai:=ai.mod ss (bb (by omega));refine bp (.cell Z (ai.all dr b2) (.cell Z (a7.all J1 yO) (.tmp Z .nil)))<| ?_;have e0:gQ W l=k1 W l:=by unfold gQ;rw [if_pos γ]
 obtain ⟨jv,z2,z3,z4⟩:=adj (W:=W) (l:=l) (by rw [e0];first | exact γ | decide);exact ⟨⟨none,none,none,none,none,0,0,0,0,0⟩,none,0,none,0,none,0,by rw [e0,jv,z2,z3,z4];rfl,by rw [jv];exact bf.zero _ _,by rw [z2];exact κ.aF.nil _,by rw [z3];exact κ.aF.nil _,by rw [z4];exact κ.aF.nil _,λ q I=>by simp [κ.af] at I,iN⟩
theorem at0 (a:ae.b6) (W:ae) (A:Option Addr) (c:Nat) (l:List aI) (w:World) (bs:ae.Has w a W) (az:aI.rep.aH 48 w A c l) (γ:k1 W l=0) (aa:1000000≤W.now):
  Calls prog 25 #[.agg ((ae.cells a W).toArray), .slice A l.length c] w (Je W l w):=by
 refine cv (n:=62) func25 Z Z Z ?_;refine aj<|cI Z Z Z Z λ dw bC bg eY ab=> ?_;have:=bg.size;have br:=τ (Ext.bM w) bg;have eZ:=ab.lt;refine al Z l8 Z Z λ eB c_ bj iF ai=> ?_;have:=bj.size;have bS:=τ br bj;have iJ:=ai.lt;refine al Z FU Z Z λ iW hb b0 qa a7=> ?_;have:=b0.size;have dp:=τ bS b0;have pC:=a7.lt;refine va Z<|ah<|aj<|vm Z<| ?_;have ab:=ab.later (τ bj b0);refine J (ak Z (ab.all dr b2))<|ca Ow Z Z ((acY _ _ l a W _ (az.keep dp) (bs.keep dp) γ).mono ?_);rintro e wb ⟨aeL,ahf,aeM,ahg,aeN,ahh,rfl,yj,rT,mF,ho⟩;refine ⟨_,Z, ?_⟩;have:=ho.size;have iN:=τ dp ho;have Sv:=λ q I=>(yj.lt q I).2;have Q0:=λ q I=>(yj.lt q I).1;have Mg:=λ q I=>(rT.lt q I).2;have Hq:=λ q I=>(rT.lt q I).1;have Ex:=λ q I=>(mF.lt q I).2;have Ll:=λ q I=>(mF.lt q I).1;refine vm Z<|J (ex Z Z)<|J (ex Z Z)<|J (ex Z Z)<|J (ex Z Z)<|va Z<|va Z<|va Z<|va Z<|ah<|aD<|aj<|vm Z<|J (beq Z Z)<|vm Z<|jG Z Z Z<|J (aw De Z)<|jG Z Z Z<| ?_;have ab:=ab.later ho;refine J (ak Z (ab.one aZ Z))<|jG Z Z Z<|J (l1 Z Z)<|J (n2 Z Z)<|ah<| ?_;have xe:(decide (1000000≤W.now))=true:=by exact decide_eq_true aa
 refine fL (by rw [← xe];rfl)<|rg<|va Z<|ah<|aD<|aj<|vm Z<|J (bne Z Z)<|ah<|fL Z<|aj<|J (v:= .agg #[.int .i64 0, .int .i64 0, .slice none 0 0, .slice none 0 0, .slice none 0 0, .slice none 0 0, .slice none 0 0, .int .i64 0, .int .i64 0]) (cO Z (by kernel_rfl))<|J (v:= .agg #[.slice none 0 0, .slice none 0 0, .slice none 0 0]) (cO Z (by kernel_rfl))<|vm Z<| ?_;have ai:=ai.later (τ b0 ho);refine st (new:= [.int .i64 0, .int .i64 0, .slice none 0 0, .slice none 0 0, .slice none 0 0, .slice none 0 0, .slice none 0 0, .int .i64 0, .int .i64 0]) Z Z ai Z b2 Z Z Z λ SF zw ai=> ?_;have:=zw.size;have x5:=Ext.mod iN zw (bR (by omega));have:=zw.size;have a7:=a7.later ho;have a7:=a7.mod zw (bb (by omega));refine st (new:= [.slice none 0 0, .slice none 0 0, .slice none 0 0]) Z Z a7 Z yO Z Z Z λ Cc uj a7=> ?_;have:=uj.size;have nv:=Ext.mod x5 uj (bR (by omega));have:=uj.size;refine va Z<|ah<|rt<|cf<| ?_;have ai:=ai.mod uj (bb (by omega));refine bp (.cell Z (ai.all dr b2) (.cell Z (a7.all J1 yO) (.tmp Z .nil)))<| ?_;have e0:gQ W l=6:=by unfold gQ;rw [if_neg (by simpa using γ),if_pos aa]
 obtain ⟨jv,z2,z3,z4⟩:=adj (W:=W) (l:=l) (by rw [e0];first | exact γ | decide);exact ⟨⟨none,none,none,none,none,0,0,0,0,0⟩,none,0,none,0,none,0,by rw [e0,jv,z2,z3,z4];rfl,by rw [jv];exact bf.zero _ _,by rw [z2];exact κ.aF.nil _,by rw [z3];exact κ.aF.nil _,by rw [z4];exact κ.aF.nil _,λ q I=>by simp [κ.af] at I,nv⟩
theorem at1 (a:ae.b6) (W:ae) (A:Option Addr) (c:Nat) (l:List aI) (w:World) (bs:ae.Has w a W) (az:aI.rep.aH 48 w A c l) (aE:gQ W l=0):
  Calls prog 25 #[.agg ((ae.cells a W).toArray), .slice A l.length c] w (Je W l w):=by
 obtain ⟨γ,aa,au,a1⟩:=Sq aE;obtain ⟨aU,bc,cy,g1,g2,g3⟩:=at2 aE;have anm:0≤(qm W l).now∧(qm W l).now≤1000000:=g3.now;refine cv (n:=62) func25 Z Z Z ?_;refine aj<|cI Z Z Z Z λ dw bC bg eY ab=> ?_;have:=bg.size;have br:=τ (Ext.bM w) bg;have eZ:=ab.lt;refine al Z l8 Z Z λ eB c_ bj iF ai=> ?_;have:=bj.size;have bS:=τ br bj;have iJ:=ai.lt;refine al Z FU Z Z λ iW hb b0 qa a7=> ?_;have:=b0.size;have dp:=τ bS b0;have pC:=a7.lt;refine va Z<|ah<|aj<|vm Z<| ?_;have ab:=ab.later (τ bj b0);refine J (ak Z (ab.all dr b2))<|ca Ow Z Z ((acY _ _ l a W _ (az.keep dp) (bs.keep dp) γ).mono ?_);rintro e wb ⟨aeL,ahf,aeM,ahg,aeN,ahh,rfl,yj,rT,mF,ho⟩;refine ⟨_,Z, ?_⟩;have:=ho.size;have iN:=τ dp ho;have Sv:=λ q I=>(yj.lt q I).2;have Q0:=λ q I=>(yj.lt q I).1;have Mg:=λ q I=>(rT.lt q I).2;have Hq:=λ q I=>(rT.lt q I).1;have Ex:=λ q I=>(mF.lt q I).2;have Ll:=λ q I=>(mF.lt q I).1;refine vm Z<|J (ex Z Z)<|J (ex Z Z)<|J (ex Z Z)<|J (ex Z Z)<|va Z<|va Z<|va Z<|va Z<|ah<|aD<|aj<|vm Z<|J (beq Z Z)<|vm Z<|jG Z Z Z<|J (aw De Z)<|jG Z Z Z<| ?_;have ab:=ab.later ho;refine J (ak Z (ab.one aZ Z))<|jG Z Z Z<|J (l1 Z Z)<|J (n2 Z Z)<|ah<| ?_;have xe:(decide (1000000≤W.now))=false:=by exact decide_eq_false (by omega)
 refine gq (by rw [← xe];rfl)<|bx<|aD<|aj<|vm Z<|J (bne Z Z)<|ah<|gq Z<|bx<|aj<|al Z FU Z Z λ SF ax9 ju aBK kv=> ?_;have:=ju.size;have x5:=τ iN ju;have aEc:=kv.lt;refine ah<|aj<| ?_;have ab:=ab.later ju;refine J (ak Z (ab.all dr b2))<|vm Z<| ?_;have yj:=yj.later ju;refine ca Xc Z Z ((ac7 (dm W l (l).length) _ _ a W _ (bs.keep x5) yj.has).mono ?_);rintro e EG ⟨a40,Am,FI,rfl,AB,hz,YK,qv⟩;refine ⟨_,Z, ?_⟩;have:=qv.size;have rK:=τ x5 qv;have v_:=λ q I=>(AB.lt q I).2;have tZ:=λ q I=>(AB.lt q I).1;have auq:=λ q I=>(hz.lt q I).2;have xw:=λ q I=>(hz.lt q I).1;have ay1:∀ q∈κ.af Am,q∈bf.b4 a40→False:=YK;have azb:∀ q∈bf.b4 a40,q∈κ.af Am→False:=λ q γ aa=>YK q aa γ;refine vm Z<|J (ex Z Z)<|J (ex Z Z)<|J (ex Z Z)<| ?_;have ab:=ab.later qv;refine st Z Z ab Z b2 Z Z Z λ SH um ab=> ?_;have:=um.size;have sQ:=Ext.mod rK um (bR (by omega));have:=um.size;refine J (aw ajf Z)<| ?_;have kv:=kv.later qv;have kv:=kv.mod um (bb (by omega));refine st (new:= [.slice Am ((ql W (dm W l (l).length)).length) FI, .slice none 0 0, .slice none 0 0]) Z Z kv Z yP Z Z Z λ EI fD kv=> ?_;have:=fD.size;have n':=Ext.mod sQ fD (bR (by omega));have:=fD.size;refine ah<|aj<| ?_;have ab:=ab.mod fD (bb (by omega));refine J (ak Z (ab.all dr b2))<|vm Z<| ?_;have rT:=rT.later (τ ju qv);have rT:=rT.mod um (b9 Hq (by omega));have rT:=rT.mod fD (cj Mg (by omega));have AB:=AB.mod um (b9 tZ (by omega));have AB:=AB.mod fD (b9 tZ (by omega));refine ca ajg Z Z ((aqd a40 (fx W (dm W l (l).length)) _ _ (dD W l (l).length) _ AB.has rT.has).mono ?_);rintro e H6 ⟨NH,CF,JB,rfl,AD,jB,YL,qw⟩;refine ⟨_,Z, ?_⟩;have:=qw.size;have pO:=τ n' qw;have Ey:=λ q I=>(AD.lt q I).2;have aa8:=λ q I=>(AD.lt q I).1;have zT:=λ q I=>(jB.lt q I).2;have BF:=λ q I=>(jB.lt q I).1;have ay2:∀ q∈κ.af CF,q∈bf.b4 NH→False:=YL;have azf:∀ q∈bf.b4 NH,q∈κ.af CF→False:=λ q γ aa=>YL q aa γ;refine vm Z<|J (ex Z Z)<|J (ex Z Z)<|J (ex Z Z)<| ?_;have ab:=ab.later qw;refine st Z Z ab Z b2 Z Z Z λ SL oA ab=> ?_;have:=oA.size;have rN:=Ext.mod pO oA (bR (by omega));have:=oA.size;refine J (aw aji Z)<| ?_;have kv:=kv.later qw;have kv:=kv.mod oA (bb (by omega));refine st (new:= [.slice Am ((ql W (dm W l (l).length)).length) FI, .slice CF ((mj (fx W (dm W l (l).length)) (dD W l (l).length)).length) JB, .slice none 0 0]) Z Z kv Z yP Z Z Z λ avk vH kv=> ?_;have:=vH.size;have Tp:=Ext.mod rN vH (bR (by omega));have:=vH.size;refine ah<|aj<| ?_;have ab:=ab.mod vH (bb (by omega));refine J (ak Z (ab.all dr b2))<|vm Z<| ?_;have mF:=mF.later (τ ju qv);have mF:=mF.mod um (b9 Ll (by omega));have mF:=mF.mod fD (cj Ex (by omega));have mF:=mF.later qw;have mF:=mF.mod oA (b9 Ll (by omega));have mF:=mF.mod vH (cj Ex (by omega));have AD:=AD.mod oA (b9 aa8 (by omega));have AD:=AD.mod vH (b9 aa8 (by omega));refine ca ajj Z Z ((aiv (dZ W l (l).length) _ _ _ NH (fN (fx W (dm W l (l).length)) (dD W l (l).length)) AD.has mF.has).mono ?_);rintro e Mu ⟨jQ,E5,Oa,rfl,ky,lV,YR,df⟩;refine ⟨_,Z, ?_⟩;have:=df.size;have qD:=τ Tp df;have H0:=λ q I=>(ky.lt q I).2;have BG:=λ q I=>(ky.lt q I).1;have aFn:=λ q I=>(lV.lt q I).2;have Hr:=λ q I=>(lV.lt q I).1;have aio:∀ q∈κ.af E5,q∈bf.b4 jQ→False:=YR;have azm:∀ q∈bf.b4 jQ,q∈κ.af E5→False:=λ q γ aa=>YR q aa γ;refine vm Z<|J (ex Z Z)<|J (ex Z Z)<|J (ex Z Z)<| ?_;have ab:=ab.later df;refine st Z Z ab Z b2 Z Z Z λ EJ h9 ab=> ?_;have:=h9.size;have rP:=Ext.mod qD h9 (bR (by omega));have:=h9.size;refine J (aw ajk Z)<| ?_;have kv:=kv.later df;have kv:=kv.mod h9 (bb (by omega));refine st (new:= [.slice Am ((ql W (dm W l (l).length)).length) FI, .slice CF ((mj (fx W (dm W l (l).length)) (dD W l (l).length)).length) JB, .slice E5 (((fN (fx W (dm W l (l).length)) (dD W l (l).length)).p1 (dZ W l (l).length)).length) Oa]) Z Z kv Z ajl Z Z Z λ avm vI kv=> ?_;have:=vI.size;have Tq:=Ext.mod rP vI (bR (by omega));have:=vI.size;refine ah<|aj<|J (aw De Z)<| ?_;have ab:=ab.mod vI (bb (by omega));refine J (ak Z (ab.one aZ Z))<|J (bad Z Z (bF ((by have I:_∧_:=anm;unfold qm rB rA at I;omega))))<|J (aw De Z)<|st (new:= [.int .i64 (((fN (fx W (dm W l (l).length)) (dD W l (l).length)).gI (dZ W l (l).length)).field.wide), .int .i64 (((fN (fx W (dm W l (l).length)) (dD W l (l).length)).gI (dZ W l (l).length)).field.high), .slice jQ.P (((fN (fx W (dm W l (l).length)) (dD W l (l).length)).gI (dZ W l (l).length)).field.aP.length) jQ.p, .slice jQ.B (((fN (fx W (dm W l (l).length)) (dD W l (l).length)).gI (dZ W l (l).length)).aY.length) jQ.b, .slice jQ.S (((fN (fx W (dm W l (l).length)) (dD W l (l).length)).gI (dZ W l (l).length)).a_.length) jQ.s, .slice jQ.M (((fN (fx W (dm W l (l).length)) (dD W l (l).length)).gI (dZ W l (l).length)).bm.length) jQ.m, .slice jQ.T (((fN (fx W (dm W l (l).length)) (dD W l (l).length)).gI (dZ W l (l).length)).ag.length) jQ.t, .int .i64 (((fN (fx W (dm W l (l).length)) (dD W l (l).length)).gI (dZ W l (l).length)).next), .int .i64 ((((fN (fx W (dm W l (l).length)) (dD W l (l).length)).gI (dZ W l (l).length)).now)+1)]) Z Z ab Z cz Z Z Z λ Mw pw ab=> ?_;have:=pw.size;have x9:=Ext.mod Tq pw (bR (by omega));have:=pw.size;refine ah<|aD<| ?_;refine asu [c_] [(0,0),(1,0),(2,2),(3,3)] [0,1,2,3,4] (by kernel_rfl) (by kernel_rfl) ?_;refine XN Z Z (λ _ x=>ak Z ((ab.mod x (bb (by omega))).all dr b2)) Z<| ?_;have kv:=kv.mod pw (bb (by omega));refine XN Z Z (λ _ x=>ak Z ((kv.mod x (bb (by omega))).all J1 yO)) Z<| ?_;have ai:=ai.later (τ b0 (τ ho (τ ju qv)));have ai:=ai.mod um (bb (by omega));have ai:=ai.mod fD (bb (by omega));have ai:=ai.later qw;have ai:=ai.mod oA (bb (by omega));have ai:=ai.mod vH (bb (by omega));have ai:=ai.later df;have ai:=ai.mod h9 (bb (by omega));have ai:=ai.mod vI (bb (by omega));have ai:=ai.mod pw (bb (by omega));refine ak1 Z Z Z λ SQ fZ Q hK=>st (new:= [.int .i64 (((fN (fx W (dm W l (l).length)) (dD W l (l).length)).gI (dZ W l (l).length)).field.wide), .int .i64 (((fN (fx W (dm W l (l).length)) (dD W l (l).length)).gI (dZ W l (l).length)).field.high), .slice jQ.P (((fN (fx W (dm W l (l).length)) (dD W l (l).length)).gI (dZ W l (l).length)).field.aP.length) jQ.p, .slice jQ.B (((fN (fx W (dm W l (l).length)) (dD W l (l).length)).gI (dZ W l (l).length)).aY.length) jQ.b, .slice jQ.S (((fN (fx W (dm W l (l).length)) (dD W l (l).length)).gI (dZ W l (l).length)).a_.length) jQ.s, .slice jQ.M (((fN (fx W (dm W l (l).length)) (dD W l (l).length)).gI (dZ W l (l).length)).bm.length) jQ.m, .slice jQ.T (((fN (fx W (dm W l (l).length)) (dD W l (l).length)).gI (dZ W l (l).length)).ag.length) jQ.t, .int .i64 (((fN (fx W (dm W l (l).length)) (dD W l (l).length)).gI (dZ W l (l).length)).next), .int .i64 ((((fN (fx W (dm W l (l).length)) (dD W l (l).length)).gI (dZ W l (l).length)).now)+1)]) Z Z (ai.later fZ) Z b2 Z Z Z λ adZ m_ ai=>hK _ _ ⟨(Mod.bG fZ).trans m_, ?_⟩;have:=fZ.size;have Cz:=τ x9 fZ;have:=m_.size;have E3:=Ext.mod Cz m_ (bR (by omega));have:=m_.size;have a7:=a7.later (τ ho (τ ju qv));have a7:=a7.mod um (bb (by omega));have a7:=a7.mod fD (bb (by omega));have a7:=a7.later qw;have a7:=a7.mod oA (bb (by omega));have a7:=a7.mod vH (bb (by omega));have a7:=a7.later df;have a7:=a7.mod h9 (bb (by omega));have a7:=a7.mod vI (bb (by omega));have a7:=a7.mod pw (bb (by omega));have a7:=a7.later fZ;have a7:=a7.mod m_ (bb (by omega));refine akr Z Z Z λ SU kr Q hK=>st (new:= [.slice Am ((ql W (dm W l (l).length)).length) FI, .slice CF ((mj (fx W (dm W l (l).length)) (dD W l (l).length)).length) JB, .slice E5 (((fN (fx W (dm W l (l).length)) (dD W l (l).length)).p1 (dZ W l (l).length)).length) Oa]) Z Z (a7.later kr) Z yO Z Z Z λ auS jE a7=>hK _ _ ?_;have:=kr.size;have sR:=τ E3 kr;have:=jE.size;have S4:=Ext.mod sR jE (bR (by omega));have:=jE.size;refine ak0 Z Z (λ _=>eV Z) Z<|akF λ SC z6=> ?_;have:=z6.size;have Ai:=τ S4 z6;refine a6<|rt<| ?_;have ai:=ai.later kr;have ai:=ai.mod jE (bb (by omega));have ai:=ai.later z6;have a7:=a7.later z6;refine bp (.cell Z (ai.all dr b2) (.cell Z (a7.all J1 yO) (.tmp Z .nil)))<| ?_;have ky:=ky.mod h9 (b9 BG (by omega));have ky:=ky.mod vI (b9 BG (by omega));have ky:=ky.mod pw (b9 BG (by omega));have ky:=ky.later fZ;have ky:=ky.mod m_ (b9 BG (by omega));have ky:=ky.later kr;have ky:=ky.mod jE (b9 BG (by omega));have ky:=ky.later z6;have hz:=hz.mod um (b9 xw (by omega));have hz:=hz.mod fD (b9 xw (by omega));have hz:=hz.later qw;have hz:=hz.mod oA (b9 xw (by omega));have hz:=hz.mod vH (b9 xw (by omega));have hz:=hz.later df;have hz:=hz.mod h9 (b9 xw (by omega));have hz:=hz.mod vI (b9 xw (by omega));have hz:=hz.mod pw (b9 xw (by omega));have hz:=hz.later fZ;have hz:=hz.mod m_ (b9 xw (by omega));have hz:=hz.later kr;have hz:=hz.mod jE (b9 xw (by omega));have hz:=hz.later z6;have jB:=jB.mod oA (b9 BF (by omega));have jB:=jB.mod vH (b9 BF (by omega));have jB:=jB.later df;have jB:=jB.mod h9 (b9 BF (by omega));have jB:=jB.mod vI (b9 BF (by omega));have jB:=jB.mod pw (b9 BF (by omega));have jB:=jB.later fZ;have jB:=jB.mod m_ (b9 BF (by omega));have jB:=jB.later kr;have jB:=jB.mod jE (b9 BF (by omega));have jB:=jB.later z6;have lV:=lV.mod h9 (b9 Hr (by omega));have lV:=lV.mod vI (b9 Hr (by omega));have lV:=lV.mod pw (b9 Hr (by omega));have lV:=lV.later fZ;have lV:=lV.mod m_ (b9 Hr (by omega));have lV:=lV.later kr;have lV:=lV.mod jE (b9 Hr (by omega));have lV:=lV.later z6;obtain ⟨jv,z2,z3,z4⟩:=Ss aE;have hR:bf SC w.heap.size jQ (mq W l):=by rw [jv];exact (ky.down (by omega)).acL Z Z Z Z Z ⟨ky.nums.1,ky.nums.2.1,ky.nums.2.2.1,bt.2 (by show _≤(qm W l).now+1∧(qm W l).now+1≤_;omega)⟩
 exact ⟨jQ,Am,FI,CF,JB,E5,Oa,by rw [aE,jv,z2,z3,z4];rfl,hR,by rw [z2];exact hz.down (by omega),by rw [z3];exact jB.down (by omega),by rw [z4];exact lV.down (by omega),λ q I hf=>I.elim (λ I=>by exfalso;(have:=BG q hf;(have:=auq q I;omega))) (λ I=>I.elim (λ I=>by exfalso;(have:=BG q hf;(have:=zT q I;omega))) (λ I=>by exfalso;(exact aio q I hf))),Ai⟩
theorem Mc (a:ae.b6) (W:ae) (A:Option Addr) (c:Nat) (l:List aI) (w:World) (bs:ae.Has w a W) (az:aI.rep.aH 48 w A c l):Calls prog 25 #[.agg (ae.cells a W).toArray, .slice A l.length c] w (Je W l w):=by
 by_cases γ:k1 W l=0
 ·by_cases aa:1000000≤W.now
  ·exact at0 a W A c l w bs az γ aa
  ·exact at1 a W A c l w bs az (by unfold gQ;rw [if_neg (by simpa using γ),if_neg aa])
 ·exact atZ a W A c l w bs az γ
end
section
open Go.RowKit
structure Kept (W V:ae):Prop where
 field:V.field=W.field
 aY:V.aY=W.aY
 now:V.now=W.now
 next:V.next=W.next+((V.ag.length:Int) - W.ag.length)
 len:W.ag.length≤V.ag.length
 old:∀ (i:Nat) (t:aW),W.ag[i]? =some t→∃ u:aW,V.ag[i]? =some u∧ {u with load:=t.load}=t
 new:∀ (i:Nat) (u:aW),W.ag.length≤i→V.ag[i]? =some u→W.next≤u.id
theorem Kept.iK {U V W:ae} (h:Kept U V) (k:Kept V W):Kept U W where
 field:=k.field.trans h.field
 aY:=k.aY.trans h.aY
 now:=k.now.trans h.now
 next:=by rw [k.next,h.next];omega
 len:=Nat.le_trans h.len k.len
 old i t aA:=by
  obtain ⟨u,hu,e⟩:=h.old i t aA;obtain ⟨x,hx,bc⟩:=k.old i u hu;refine ⟨x,hx, ?_⟩;rw [← e,← bc]
 new i u ao hu:=by
  by_cases γ:i<V.ag.length
  ·obtain ⟨t,aA⟩:=gg γ;obtain ⟨x,hx,e⟩:=k.old i t aA;rw [hu] at hx;obtain rfl:=Option.some.inj hx;have:=h.new i t ao aA;have cy:t.id=u.id:=by rw [← e]
   omega
  ·have aa:=k.new i u (by omega) hu;have:=h.next;have:=h.len;omega
theorem Kept.getD {W V:ae} (h:Kept W V) {i:Nat} (ao:i<W.ag.length): {V.ag.getD i default with load:=(W.ag.getD i default).load}=W.ag.getD i default:=by
 obtain ⟨t,aA⟩:=gg ao;obtain ⟨u,hu,e⟩:=h.old i t aA;rw [List.getD_eq_getElem?_getD,List.getD_eq_getElem?_getD,aA,hu];exact e
def abR:List b1→List Bool→List b1
 | d::l,b::cH=>if b then d::abR l cH else abR l cH
 | _,_=> []
end
section
open Go.RowKit
theorem Sk {W:ae} (h:W.bh=0):fx W []=W∧ql W []= []:=by
 have aU:=N1 (l:= []) h (by decide);have hS:=ac8 aU;have ey:eH W []=List.replicate W.ag.length 0:=by unfold eH;rw [aU];rfl
 have hu:xr W []=W.ag:=by
  apply List.ext_getElem?;intro i;cases aA:W.ag[i]? with
  | none =>
   have:=List.getElem?_eq_none_iff.1 aA;rw [List.getElem?_eq_none (by rw [K_];exact this)]
  | some t =>
   rw [K9 aA,ey];have:(List.replicate W.ag.length (0:Int)).getD i 0=0:=by
    rw [List.getD_eq_getElem?_getD,List.getElem?_replicate];split<;>rfl
   rw [this,Int.sub_zero]
 have hf:∀ t∈W.ag,0<t.cG:=λ t aA=>by have:=(hS.jg.each aA).2.2.cG;omega
 constructor
 ·rw [hS.bs,hu,List.filter_eq_self.2 λ t aA=>decide_eq_true (hf t aA)]
 ·rw [hS.bq,hu,List.filter_eq_nil_iff.2 λ t aA=>by simp [hf t aA]];rfl
theorem ac3 {f:aC} {T:List aW}:∀ k,ir f [] T k=(T, [])
 | 0=>rfl
 | k+1=>B5 (ac3 k) (ac5 (by show gh _ ([]:List cS)<0;unfold gh;simp))
theorem abm {W:ae} (h:W.bh=0):fN W []=W∧mj W []= []:=by
 obtain ⟨aU,bc,cy⟩:=Lu (W:=W) (l:= []) h (by decide);rw [bc,cy];unfold ae.kn;rw [ac3];exact ⟨Z,Z⟩
theorem aiy {W:ae} (h:W.bh=0):W.gI []=W∧W.p1 []= []:=⟨Ol h (by decide),Om h (by decide)⟩
theorem at3 {W:ae} (h:W.bh=0) (hn:W.now<1000000):gQ W []=0∧mq W []= {W with now:=W.now+1}∧vW W []= []∧vX W []= []∧vV W []= []:=by
 have e0:k1 W []=0:=by unfold k1;rw [if_neg (by decide)];exact h
 have aU:gQ W []=0:=by unfold gQ;rw [if_neg (by simpa using e0),if_neg (by omega)]
 obtain ⟨jv,z2,z3,z4⟩:=Ss aU;obtain ⟨s1,s2⟩:=Sk h;have t1:rA W []=W:=s1;obtain ⟨m1,m2⟩:=abm h;have t2:rB W []=W:=by show fN (rA W []) []=W;rw [t1];exact m1
 obtain ⟨d1,d2⟩:=aiy h;have t3:qm W []=W:=by show (rB W []).gI []=W;rw [t2];exact d1
 refine ⟨aU,by rw [jv,t3],by rw [z2];exact s2, ?_, ?_⟩
 ·rw [z3];show mj (rA W []) []= [];rw [t1];exact m2
 ·rw [z4];show (rB W []).p1 []= [];rw [t2];exact d2
def lJ:List aI:= [⟨0,3,1,⟨2,0⟩,0⟩]
def L':ae:=⟨⟨3,1, [0,0,3]⟩, [⟨0,0⟩], [20], [0,0,8], [⟨1,0,1,⟨1,0⟩,10,1⟩],2,1⟩
theorem Sr:gQ e2 lJ=0∧mq e2 lJ=L'∧vW e2 lJ= []∧vX e2 lJ= []∧vV e2 lJ= [true]:=by
 have hc:e2.bh=0:=by decide +kernel
 have W5:dm e2 lJ lJ.length= []:=by decide +kernel
 have Xv:dD e2 lJ lJ.length= []:=by decide +kernel
 have W6:dZ e2 lJ lJ.length= [⟨1,1,⟨2,0⟩,0⟩]:=by decide +kernel
 have aU:gQ e2 lJ=0:=by decide +kernel
 obtain ⟨jv,z2,z3,z4⟩:=Ss aU;obtain ⟨s1,s2⟩:=Sk hc;have t1:rA e2 lJ=e2:=by unfold rA;rw [W5];exact s1
 obtain ⟨m1,m2⟩:=abm hc;have t2:rB e2 lJ=e2:=by unfold rB;rw [t1,Xv];exact m1
 have t3:qm e2 lJ=e2.gI [⟨1,1,⟨2,0⟩,0⟩]:=by unfold qm;rw [t2,W6]
 have hd:e2.gI [⟨1,1,⟨2,0⟩,0⟩]= {L' with now:=0}:=by decide +kernel
 refine ⟨aU, ?_, ?_, ?_, ?_⟩
 ·rw [jv,t3,hd];rfl
 ·rw [z2,W5];exact s2
 ·rw [z3,t1,Xv];exact m2
 ·rw [z4,t2,W6];decide +kernel
end
end Go.Proofs.YtlikikpgmmkjbaaGreat
