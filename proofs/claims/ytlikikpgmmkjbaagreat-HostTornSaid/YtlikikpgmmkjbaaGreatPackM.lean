import Derived.Test.YtlikikpgmmkjbaaGreatShelf
set_option linter.unusedVariables false
set_option linter.unusedSimpArgs false
set_option maxRecDepth 100000
set_option maxHeartbeats 4000000
open Go.RowKit
namespace Go.Proofs.YtlikikpgmmkjbaaGreat
open Tryz
abbrev aRJ:=@UInt8.toNat_ofNat'
abbrev aSU:=@Go.World.cell?_alloc_new
abbrev aTU:=@Nat.pow_succ
abbrev aVv:=@List.getElem_singleton
section
def gX (W:ag) (l:List aN):Int:=if nX W l≠0 then nX W l else if 1000000≤W.now then 6 else 0
def ud (W:ag) (l:List aN):ag:=gw W (dO W l l.length)
noncomputable def ue (W:ag) (l:List aN):ag:=gV (ud W l) (ei W l l.length)
noncomputable def nY (W:ag) (l:List aN):ag:=(ue W l).ia (eR W l l.length)
noncomputable def ld (W:ag) (l:List aN):ag:=if gX W l≠0 then ag.zero else {nY W l with now:=(nY W l).now+1}
def xr (W:ag) (l:List aN):List Int:=if gX W l≠0 then [] else rG W (dO W l l.length)
noncomputable def xt (W:ag) (l:List aN):List Int:=if gX W l≠0 then [] else oI (ud W l) (ei W l l.length)
noncomputable def y1 (W:ag) (l:List aN):List Bool:=if gX W l≠0 then [] else (ue W l).tv (eR W l l.length)
theorem aky {W:ag} {l:List aN} (h:gX W l≠0):ld W l=ag.zero∧xr W l= []∧xt W l= []∧y1 W l= []:=by
 unfold ld xr xt y1;simp only [aQZ h,and_self]
theorem Yh {W:ag} {l:List aN} (h:gX W l=0):ld W l= {nY W l with now:=(nY W l).now+1}∧xr W l=rG W (dO W l l.length)∧xt W l=oI (ud W l) (ei W l l.length)∧y1 W l=(ue W l).tv (eR W l l.length):=by
 have c8:¬ gX W l≠0:=by simpa using h
 unfold ld xr xt y1;simp only [aQV c8,and_self]
theorem Q9 {W:ag} {l:List aN} (h:gX W l=0):nX W l=0∧W.now<1000000∧W.bn=0∧l.length≤100:=by
 unfold gX at h;split at h
 ·contradiction
 ·rename_i γ
  have γ:nX W l=0:=by simpa using γ
  split at h
  ·exact nomatch h
  ·exact ⟨γ,by omega,(Q0 γ).2,aBP γ⟩
theorem aqo {W:ag} {l:List ch} (h:W.bn=0) (az:l.length≤200):W.qa l=0∧W.ia l=(W.gH l).1:=by
 have e:W.qa l=0:=by unfold ag.qa;rw [aQV (by omega),aQV (by omega)]
 exact ⟨e,by unfold ag.ia;rw [aQZ e]⟩
theorem Te {W:ag} {l:List dh} (h:W.bn=0) (az:l.length≤200):lU W l=0:=by unfold lU;rw [aQV (by omega),aQV (by omega)]
theorem Yf {W:ag} {l:List aN} (h:gX W l=0):lU W (dO W l l.length)=0∧rB (ud W l) (ei W l l.length)=0∧(ue W l).qa (eR W l l.length)=0∧Good (ud W l)∧Good (ue W l)∧Good (nY W l):=by
 obtain ⟨γ,ab,aw,aX⟩:=Q9 h;obtain ⟨ko,eZ,gm⟩:=akd W l l.length;have a_:=Te (l:=dO W l l.length) aw (by omega);have g1:Good (ud W l):=(Q7 a_).right;have bh:=(Qr (W:=ud W l) (l:=ei W l l.length) g1.bn (by omega)).1;have g2:Good (ue W l):=(W4 bh).1;obtain ⟨cD,jr⟩:=aqo (W:=ue W l) (l:=eR W l l.length) g2.bn (by omega);refine ⟨a_,bh,cD,g1,g2, ?_⟩;unfold nY;rw [jr];exact g2.gH _
def NO (W:ag) (l:List aN) (w:World) (e:Ending) (w':World):Prop :=
 ∃ a' gO bW cg c1 cW c2,e= .returned (.tuple #[.agg (ag.cells a' (ld W l)).toArray, .agg #[.slice gO (xr W l).length bW, .slice cg (xt W l).length c1, .slice cW (y1 W l).length c2], .int .i64 (gX W l)])∧bq w' w.heap.size a' (ld W l)∧
  bK.aG 3 8 w' w.heap.size (τ.ae gO) gO bW (xr W l)∧bK.aG 3 8 w' w.heap.size (τ.ae cg) cg c1 (xt W l)∧yY.aG 4 1 w' w.heap.size (τ.ae cW) cW c2 (y1 W l)∧
  (∀ q,(q∈τ.ae gO∨q∈τ.ae cg∨q∈τ.ae cW)→q∉bq.b_ a')∧Ext w w'
theorem aCA (a:ag.cc) (W:ag) (A:Option Addr) (c:Nat) (l:List aN) (w:World) (bP:ag.Has w a W) (az:aN.rep.aI 48 w A c l) (γ:nX W l≠0):
  Calls prog 25 #[.agg ((ag.cells a W).toArray), .slice A l.length c] w (NO W l w):=by
 have dJ:(nX W l == 0)=false:=by simpa using γ
 have eO:(nX W l != 0)=true:=by simpa using γ
 refine cd (n:=62) func25 Z Z Z ?_;refine aj<|cB Z Z Z Z λ cO bJ ba eb aa=> ?_;have:=ba.size;have bk:=κ (Ext.bI w) ba;have eh:=aa.lt;refine al Z mh Z Z λ eA cC bm hT ah=> ?_;have:=bm.size;have bO:=κ bk bm;have hI:=ah.lt;refine al Z Gt Z Z λ hj hZ b7 qm aJ=> ?_;have:=b7.size;have cV:=κ bO b7;have oM:=aJ.lt;refine va Z<|ai<|aj<|vm Z<| ?_;have aa:=aa.later (κ bm b7);refine J (ao Z (aa.all c7 b3))<|ca TX Z Z ((aBQ _ _ l a W _ (az.keep cV) (bP.keep cV) γ).mono ?_);rintro e nr ⟨rfl,eB⟩;refine ⟨_,Z, ?_⟩;have:=eB.size;have fu:=κ cV eB;refine vm rfl<|J (ex rfl rfl)<|J (ex rfl rfl)<|J (ex rfl rfl)<|J (ex rfl rfl)<|va rfl<|va rfl<|va rfl<|va rfl<|ai<|aB<|aj<|vm rfl<|J (beq rfl rfl)<|vm (gA rfl dJ)<|aO (v:=undef) rfl rfl rfl rfl (λ hc=>nomatch hc) rfl<|aO (v:=undef) rfl rfl rfl rfl (λ hc=>nomatch hc) rfl<|aO (v:=undef) rfl rfl rfl rfl (λ hc=>nomatch hc) rfl<|J (sz rfl rfl)<|ai<|hC rfl<| ?_;refine bs<|aB<|aj<|vm Z<|J (bne Z Z)<|ai<|fx (gA Z eO)<|aj<|J (v:= .agg #[.int .i64 0, .int .i64 0, .slice none 0 0, .slice none 0 0, .slice none 0 0, .slice none 0 0, .slice none 0 0, .int .i64 0, .int .i64 0]) (cG Z (by kernel_rfl))<|J (v:= .agg #[.slice none 0 0, .slice none 0 0, .slice none 0 0]) (cG Z (by kernel_rfl))<|vm Z<| ?_;have ah:=ah.later (κ b7 eB);refine st (new:= [.int .i64 0, .int .i64 0, .slice none 0 0, .slice none 0 0, .slice none 0 0, .slice none 0 0, .slice none 0 0, .int .i64 0, .int .i64 0]) Z Z ah Z b3 Z Z Z λ qv EP ah=> ?_;have:=EP.size;have ht:=Ext.mod fu EP bw;have aJ:=aJ.later eB;have aJ:=aJ.mod EP aR;refine st (new:= [.slice none 0 0, .slice none 0 0, .slice none 0 0]) Z Z aJ Z zV Z Z Z λ sI yK aJ=> ?_;have:=yK.size;have hN:=Ext.mod ht yK bw;refine va Z<|ai<|rt<|bN<| ?_;have ah:=ah.mod yK aR;refine bb (.cell Z (ah.all c7 b3) (.cell Z (aJ.all OI zV) (.tmp Z .nil)))<| ?_;have e0:gX W l=nX W l:=by unfold gX;rw [aQZ γ]
 obtain ⟨kE,z2,z3,z4⟩:=aky (W:=W) (l:=l) (by rw [e0];first | exact γ | decide);exact ⟨⟨none,none,none,none,none,0,0,0,0,0⟩,none,0,none,0,none,0,by rw [e0,kE,z2,z3,z4];rfl,by rw [kE];exact bq.zero _ _,by rw [z2];exact τ.aG.nil _,by rw [z3];exact τ.aG.nil _,by rw [z4];exact τ.aG.nil _,λ q I=>by simp [τ.ae] at I,hN⟩
theorem aCB (a:ag.cc) (W:ag) (A:Option Addr) (c:Nat) (l:List aN) (w:World) (bP:ag.Has w a W) (az:aN.rep.aI 48 w A c l) (γ:nX W l=0) (ab:1000000≤W.now):
  Calls prog 25 #[.agg ((ag.cells a W).toArray), .slice A l.length c] w (NO W l w):=by
 refine cd (n:=62) func25 Z Z Z ?_;refine aj<|cB Z Z Z Z λ cO bJ ba eb aa=> ?_;have:=ba.size;have bk:=κ (Ext.bI w) ba;have eh:=aa.lt;refine al Z mh Z Z λ eA cC bm hT ah=> ?_;have:=bm.size;have bO:=κ bk bm;have hI:=ah.lt;refine al Z Gt Z Z λ hj hZ b7 qm aJ=> ?_;have:=b7.size;have cV:=κ bO b7;have oM:=aJ.lt;refine va Z<|ai<|aj<|vm Z<| ?_;have aa:=aa.later (κ bm b7);refine J (ao Z (aa.all c7 b3))<|ca TX Z Z ((akf _ _ l a W _ (az.keep cV) (bP.keep cV) γ).mono ?_);rintro e sI ⟨al6,ao0,R_,ao1,al7,Tr,rfl,Bl,uL,ob,eC⟩;refine ⟨_,Z, ?_⟩;have:=eC.size;have hN:=κ cV eC;have Fb:=λ q I=>(Bl.lt q I).2;have Lu:=λ q I=>(Bl.lt q I).1;have Yl:=λ q I=>(uL.lt q I).2;have Lv:=λ q I=>(uL.lt q I).1;have oO:=λ q I=>(ob.lt q I).2;have na:=λ q I=>(ob.lt q I).1;refine vm Z<|J (ex Z Z)<|J (ex Z Z)<|J (ex Z Z)<|J (ex Z Z)<|va Z<|va Z<|va Z<|va Z<|ai<|aB<|aj<|vm Z<|J (beq Z Z)<|vm Z<|lf Z Z Z<|J (au D7 Z)<|lf Z Z Z<| ?_;have aa:=aa.later eC;refine J (ao Z (aa.one bd Z))<|lf Z Z Z<|J (iI Z Z)<|J (pQ Z Z)<|ai<| ?_;have nK:(decide (1000000≤W.now))=true:=by exact aRi ab
 refine fx (by rw [← nK];rfl)<|rg<|va Z<|ai<|aB<|aj<|vm Z<|J (bne Z Z)<|ai<|fx Z<|aj<|J (v:= .agg #[.int .i64 0, .int .i64 0, .slice none 0 0, .slice none 0 0, .slice none 0 0, .slice none 0 0, .slice none 0 0, .int .i64 0, .int .i64 0]) (cG Z (by kernel_rfl))<|J (v:= .agg #[.slice none 0 0, .slice none 0 0, .slice none 0 0]) (cG Z (by kernel_rfl))<|vm Z<| ?_;have ah:=ah.later (κ b7 eC);refine st (new:= [.int .i64 0, .int .i64 0, .slice none 0 0, .slice none 0 0, .slice none 0 0, .slice none 0 0, .slice none 0 0, .int .i64 0, .int .i64 0]) Z Z ah Z b3 Z Z Z λ Fi Az ah=> ?_;have:=Az.size;have uB:=Ext.mod hN Az bw;have aJ:=aJ.later eC;have aJ:=aJ.mod Az aR;refine st (new:= [.slice none 0 0, .slice none 0 0, .slice none 0 0]) Z Z aJ Z zV Z Z Z λ AT tV aJ=> ?_;have:=tV.size;have kF:=Ext.mod uB tV bw;refine va Z<|ai<|rt<|bN<| ?_;have ah:=ah.mod tV aR;refine bb (.cell Z (ah.all c7 b3) (.cell Z (aJ.all OI zV) (.tmp Z .nil)))<| ?_;have e0:gX W l=6:=by unfold gX;rw [aQV (by simpa using γ),aQZ ab]
 obtain ⟨kE,z2,z3,z4⟩:=aky (W:=W) (l:=l) (by rw [e0];first | exact γ | decide);exact ⟨⟨none,none,none,none,none,0,0,0,0,0⟩,none,0,none,0,none,0,by rw [e0,kE,z2,z3,z4];rfl,by rw [kE];exact bq.zero _ _,by rw [z2];exact τ.aG.nil _,by rw [z3];exact τ.aG.nil _,by rw [z4];exact τ.aG.nil _,λ q I=>by simp [τ.ae] at I,kF⟩
theorem aCC (a:ag.cc) (W:ag) (A:Option Addr) (c:Nat) (l:List aN) (w:World) (bP:ag.Has w a W) (az:aN.rep.aI 48 w A c l) (aF:gX W l=0):
  Calls prog 25 #[.agg ((ag.cells a W).toArray), .slice A l.length c] w (NO W l w):=by
 obtain ⟨γ,ab,aw,aX⟩:=Q9 aF;obtain ⟨a_,bh,cD,g1,g2,g3⟩:=Yf aF;have avN:0≤(nY W l).now∧(nY W l).now≤1000000:=g3.now;refine cd (n:=62) func25 Z Z Z ?_;refine aj<|cB Z Z Z Z λ cO bJ ba eb aa=> ?_;have:=ba.size;have bk:=κ (Ext.bI w) ba;have eh:=aa.lt;refine al Z mh Z Z λ eA cC bm hT ah=> ?_;have:=bm.size;have bO:=κ bk bm;have hI:=ah.lt;refine al Z Gt Z Z λ hj hZ b7 qm aJ=> ?_;have:=b7.size;have cV:=κ bO b7;have oM:=aJ.lt;refine va Z<|ai<|aj<|vm Z<| ?_;have aa:=aa.later (κ bm b7);refine J (ao Z (aa.all c7 b3))<|ca TX Z Z ((akf _ _ l a W _ (az.keep cV) (bP.keep cV) γ).mono ?_);rintro e sI ⟨al6,ao0,R_,ao1,al7,Tr,rfl,Bl,uL,ob,eC⟩;refine ⟨_,Z, ?_⟩;have:=eC.size;have hN:=κ cV eC;have Fb:=λ q I=>(Bl.lt q I).2;have Lu:=λ q I=>(Bl.lt q I).1;have Yl:=λ q I=>(uL.lt q I).2;have Lv:=λ q I=>(uL.lt q I).1;have oO:=λ q I=>(ob.lt q I).2;have na:=λ q I=>(ob.lt q I).1;refine vm Z<|J (ex Z Z)<|J (ex Z Z)<|J (ex Z Z)<|J (ex Z Z)<|va Z<|va Z<|va Z<|va Z<|ai<|aB<|aj<|vm Z<|J (beq Z Z)<|vm Z<|lf Z Z Z<|J (au D7 Z)<|lf Z Z Z<| ?_;have aa:=aa.later eC;refine J (ao Z (aa.one bd Z))<|lf Z Z Z<|J (iI Z Z)<|J (pQ Z Z)<|ai<| ?_;have nK:(decide (1000000≤W.now))=false:=by exact aRm (by omega)
 refine hC (by rw [← nK];rfl)<|bs<|aB<|aj<|vm Z<|J (bne Z Z)<|ai<|hC Z<|bs<|aj<|al Z Gt Z Z λ Fi aHg jo aLr lR=> ?_;have:=jo.size;have uB:=κ hN jo;have aNU:=lR.lt;refine ai<|aj<| ?_;have aa:=aa.later jo;refine J (ao Z (aa.all c7 b3))<|vm Z<| ?_;have Bl:=Bl.later jo;refine ca adn Z Z ((akm (dO W l (l).length) _ _ a W _ (bP.keep uB) Bl.has).mono ?_);rintro e H_ ⟨a40,rV,uT,rfl,Dv,iF,Vy,n4⟩;refine ⟨_,Z, ?_⟩;have:=n4.size;have uD:=κ uB n4;have ui:=λ q I=>(Dv.lt q I).2;have sk:=λ q I=>(Dv.lt q I).1;have H5:=λ q I=>(iF.lt q I).2;have Au:=λ q I=>(iF.lt q I).1;have aIe:∀ q∈τ.ae rV,q∈bq.b_ a40→False:=Vy;have aIn:∀ q∈bq.b_ a40,q∈τ.ae rV→False:=λ q γ ab=>Vy q ab γ;refine vm Z<|J (ex Z Z)<|J (ex Z Z)<|J (ex Z Z)<| ?_;have aa:=aa.later n4;refine st Z Z aa Z b3 Z Z Z λ Mt yL aa=> ?_;have:=yL.size;have p1:=Ext.mod uD yL bw;refine J (au ark Z)<| ?_;have lR:=lR.later n4;have lR:=lR.mod yL aR;refine st (new:= [.slice rV ((rG W (dO W l (l).length)).length) uT, .slice none 0 0, .slice none 0 0]) Z Z lR Z wK Z Z Z λ C1 fW lR=> ?_;have:=fW.size;have mJ:=Ext.mod p1 fW bw;refine ai<|aj<| ?_;have aa:=aa.mod fW aR;refine J (ao Z (aa.all c7 b3))<|vm Z<| ?_;have uL:=uL.later (κ jo n4);have uL:=uL.mod yL (bz Lv);have uL:=uL.mod fW (b0 Yl);have Dv:=Dv.mod yL (bz sk);have Dv:=Dv.mod fW (bz sk);refine ca arl Z Z ((ayO a40 (gw W (dO W l (l).length)) _ _ (ei W l (l).length) _ Dv.has uL.has).mono ?_);rintro e Mw ⟨wx,FV,Oe,rfl,nA,kM,G1,sN⟩;refine ⟨_,Z, ?_⟩;have:=sN.size;have rR:=κ mJ sN;have AP:=λ q I=>(nA.lt q I).2;have Hl:=λ q I=>(nA.lt q I).1;have AQ:=λ q I=>(kM.lt q I).2;have Cr:=λ q I=>(kM.lt q I).1;have aIf:∀ q∈τ.ae FV,q∈bq.b_ wx→False:=G1;have aIr:∀ q∈bq.b_ wx,q∈τ.ae FV→False:=λ q γ ab=>G1 q ab γ;refine vm Z<|J (ex Z Z)<|J (ex Z Z)<|J (ex Z Z)<| ?_;have aa:=aa.later sN;refine st Z Z aa Z b3 Z Z Z λ RB nd aa=> ?_;have:=nd.size;have rT:=Ext.mod rR nd bw;refine J (au arn Z)<| ?_;have lR:=lR.later sN;have lR:=lR.mod nd aR;refine st (new:= [.slice rV ((rG W (dO W l (l).length)).length) uT, .slice FV ((oI (gw W (dO W l (l).length)) (ei W l (l).length)).length) Oe, .slice none 0 0]) Z Z lR Z wK Z Z Z λ alf AD lR=> ?_;have:=AD.size;have MW:=Ext.mod rT AD bw;refine ai<|aj<| ?_;have aa:=aa.mod AD aR;refine J (ao Z (aa.all c7 b3))<|vm Z<| ?_;have ob:=ob.later (κ jo n4);have ob:=ob.mod yL (bz na);have ob:=ob.mod fW (b0 oO);have ob:=ob.later sN;have ob:=ob.mod nd (bz na);have ob:=ob.mod AD (b0 oO);have nA:=nA.mod nd (bz Hl);have nA:=nA.mod AD (bz Hl);refine ca aro Z Z ((aqw (eR W l (l).length) _ _ _ wx (gV (gw W (dO W l (l).length)) (ei W l (l).length)) nA.has ob.has).mono ?_);rintro e RE ⟨k4,Iy,Tt,rfl,lT,nC,aff,dw⟩;refine ⟨_,Z, ?_⟩;have:=dw.size;have sU:=κ MW dw;have y7:=λ q I=>(lT.lt q I).2;have Cs:=λ q I=>(lT.lt q I).1;have aPq:=λ q I=>(nC.lt q I).2;have Ly:=λ q I=>(nC.lt q I).1;have aqg:∀ q∈τ.ae Iy,q∈bq.b_ k4→False:=aff;have aIA:∀ q∈bq.b_ k4,q∈τ.ae Iy→False:=λ q γ ab=>aff q ab γ;refine vm Z<|J (ex Z Z)<|J (ex Z Z)<|J (ex Z Z)<| ?_;have aa:=aa.later dw;refine st Z Z aa Z b3 Z Z Z λ C2 gL aa=> ?_;have:=gL.size;have p3:=Ext.mod sU gL bw;refine J (au arp Z)<| ?_;have lR:=lR.later dw;have lR:=lR.mod gL aR;refine st (new:= [.slice rV ((rG W (dO W l (l).length)).length) uT, .slice FV ((oI (gw W (dO W l (l).length)) (ei W l (l).length)).length) Oe, .slice Iy (((gV (gw W (dO W l (l).length)) (ei W l (l).length)).tv (eR W l (l).length)).length) Tt]) Z Z lR Z arq Z Z Z λ alg tW lR=> ?_;have:=tW.size;have MX:=Ext.mod p3 tW bw;refine ai<|aj<|J (au D7 Z)<| ?_;have aa:=aa.mod tW aR;refine J (ao Z (aa.one bd Z))<|J (bad Z Z (bG ((by have I:_∧_:=avN;unfold nY ue ud at I;omega))))<|J (au D7 Z)<|st (new:= [.int .i64 (((gV (gw W (dO W l (l).length)) (ei W l (l).length)).ia (eR W l (l).length)).field.wide), .int .i64 (((gV (gw W (dO W l (l).length)) (ei W l (l).length)).ia (eR W l (l).length)).field.high), .slice k4.P (((gV (gw W (dO W l (l).length)) (ei W l (l).length)).ia (eR W l (l).length)).field.aW.length) k4.p, .slice k4.B (((gV (gw W (dO W l (l).length)) (ei W l (l).length)).ia (eR W l (l).length)).aU.length) k4.b, .slice k4.S (((gV (gw W (dO W l (l).length)) (ei W l (l).length)).ia (eR W l (l).length)).bj.length) k4.s, .slice k4.M (((gV (gw W (dO W l (l).length)) (ei W l (l).length)).ia (eR W l (l).length)).br.length) k4.m, .slice k4.T (((gV (gw W (dO W l (l).length)) (ei W l (l).length)).ia (eR W l (l).length)).ak.length) k4.t, .int .i64 (((gV (gw W (dO W l (l).length)) (ei W l (l).length)).ia (eR W l (l).length)).next), .int .i64 ((((gV (gw W (dO W l (l).length)) (ei W l (l).length)).ia (eR W l (l).length)).now)+1)]) Z Z aa Z dr Z Z Z λ YF sw aa=> ?_;have:=sw.size;have FL:=Ext.mod MX sw bw;refine ai<|aB<| ?_;refine QQ [cC] [(0,0),(1,0),(2,2),(3,3)] [0,1,2,3,4] (by kernel_rfl) (by kernel_rfl) ?_;refine yo Z Z (λ _ x=>ao Z ((aa.mod x aR).all c7 b3)) Z<| ?_;have lR:=lR.mod sw aR;refine yo Z Z (λ _ x=>ao Z ((lR.mod x aR).all OI zV)) Z<| ?_;have ah:=ah.later (κ b7 (κ eC (κ jo n4)));have ah:=ah.mod yL aR;have ah:=ah.mod fW aR;have ah:=ah.later sN;have ah:=ah.mod nd aR;have ah:=ah.mod AD aR;have ah:=ah.later dw;have ah:=ah.mod gL aR;have ah:=ah.mod tW aR;have ah:=ah.mod sw aR;refine Ec Z Z Z λ MA e8 Q hK=>st (new:= [.int .i64 (((gV (gw W (dO W l (l).length)) (ei W l (l).length)).ia (eR W l (l).length)).field.wide), .int .i64 (((gV (gw W (dO W l (l).length)) (ei W l (l).length)).ia (eR W l (l).length)).field.high), .slice k4.P (((gV (gw W (dO W l (l).length)) (ei W l (l).length)).ia (eR W l (l).length)).field.aW.length) k4.p, .slice k4.B (((gV (gw W (dO W l (l).length)) (ei W l (l).length)).ia (eR W l (l).length)).aU.length) k4.b, .slice k4.S (((gV (gw W (dO W l (l).length)) (ei W l (l).length)).ia (eR W l (l).length)).bj.length) k4.s, .slice k4.M (((gV (gw W (dO W l (l).length)) (ei W l (l).length)).ia (eR W l (l).length)).br.length) k4.m, .slice k4.T (((gV (gw W (dO W l (l).length)) (ei W l (l).length)).ia (eR W l (l).length)).ak.length) k4.t, .int .i64 (((gV (gw W (dO W l (l).length)) (ei W l (l).length)).ia (eR W l (l).length)).next), .int .i64 ((((gV (gw W (dO W l (l).length)) (ei W l (l).length)).ia (eR W l (l).length)).now)+1)]) Z Z (ah.later e8) Z b3 Z Z Z λ MB ky ah=>hK _ _ ⟨(Mod.bD e8).trans ky, ?_⟩;have:=e8.size;have xO:=κ FL e8;have:=ky.size;have vT:=Ext.mod xO ky bw;have aJ:=aJ.later (κ eC (κ jo n4));have aJ:=aJ.mod yL aR;have aJ:=aJ.mod fW aR;have aJ:=aJ.later sN;have aJ:=aJ.mod nd aR;have aJ:=aJ.mod AD aR;have aJ:=aJ.later dw;have aJ:=aJ.mod gL aR;have aJ:=aJ.mod tW aR;have aJ:=aJ.mod sw aR;have aJ:=aJ.later e8;have aJ:=aJ.mod ky aR;refine Uq Z Z Z λ MC jX Q hK=>st (new:= [.slice rV ((rG W (dO W l (l).length)).length) uT, .slice FV ((oI (gw W (dO W l (l).length)) (ei W l (l).length)).length) Oe, .slice Iy (((gV (gw W (dO W l (l).length)) (ei W l (l).length)).tv (eR W l (l).length)).length) Tt]) Z Z (aJ.later jX) Z zV Z Z Z λ Ff lC aJ=>hK _ _ ?_;have:=jX.size;have qH:=κ vT jX;have:=lC.size;have FD:=Ext.mod qH lC bw;refine jd Z Z (λ _=>eY Z) Z<|O1 λ Yu C6=> ?_;have:=C6.size;have De:=κ FD C6;refine aV<|rt<| ?_;have ah:=ah.later jX;have ah:=ah.mod lC aR;have ah:=ah.later C6;have aJ:=aJ.later C6;refine bb (.cell Z (ah.all c7 b3) (.cell Z (aJ.all OI zV) (.tmp Z .nil)))<| ?_;have lT:=lT.mod gL (bz Cs);have lT:=lT.mod tW (bz Cs);have lT:=lT.mod sw (bz Cs);have lT:=lT.later e8;have lT:=lT.mod ky (bz Cs);have lT:=lT.later jX;have lT:=lT.mod lC (bz Cs);have lT:=lT.later C6;have iF:=iF.mod yL (bz Au);have iF:=iF.mod fW (bz Au);have iF:=iF.later sN;have iF:=iF.mod nd (bz Au);have iF:=iF.mod AD (bz Au);have iF:=iF.later dw;have iF:=iF.mod gL (bz Au);have iF:=iF.mod tW (bz Au);have iF:=iF.mod sw (bz Au);have iF:=iF.later e8;have iF:=iF.mod ky (bz Au);have iF:=iF.later jX;have iF:=iF.mod lC (bz Au);have iF:=iF.later C6;have kM:=kM.mod nd (bz Cr);have kM:=kM.mod AD (bz Cr);have kM:=kM.later dw;have kM:=kM.mod gL (bz Cr);have kM:=kM.mod tW (bz Cr);have kM:=kM.mod sw (bz Cr);have kM:=kM.later e8;have kM:=kM.mod ky (bz Cr);have kM:=kM.later jX;have kM:=kM.mod lC (bz Cr);have kM:=kM.later C6;have nC:=nC.mod gL (bz Ly);have nC:=nC.mod tW (bz Ly);have nC:=nC.mod sw (bz Ly);have nC:=nC.later e8;have nC:=nC.mod ky (bz Ly);have nC:=nC.later jX;have nC:=nC.mod lC (bz Ly);have nC:=nC.later C6;obtain ⟨kE,z2,z3,z4⟩:=Yh aF;have hR:bq Yu w.heap.size k4 (ld W l):=by rw [kE];exact (lT.down (by omega)).ajX Z Z Z Z Z ⟨lT.nums.1,lT.nums.2.1,lT.nums.2.2.1,bM.2 (by show _≤(nY W l).now+1∧(nY W l).now+1≤_;omega)⟩
 exact ⟨k4,rV,uT,FV,Oe,Iy,Tt,by rw [aF,kE,z2,z3,z4];rfl,hR,by rw [z2];exact iF.down (by omega),by rw [z3];exact kM.down (by omega),by rw [z4];exact nC.down (by omega),λ q I hf=>I.elim (λ I=>by exfalso;(have:=Cs q hf;(have:=H5 q I;omega))) (λ I=>I.elim (λ I=>by exfalso;(have:=Cs q hf;(have:=AQ q I;omega))) (λ I=>by exfalso;(exact aqg q I hf))),De⟩
theorem Mh (a:ag.cc) (W:ag) (A:Option Addr) (c:Nat) (l:List aN) (w:World) (bP:ag.Has w a W) (az:aN.rep.aI 48 w A c l):Calls prog 25 #[.agg (ag.cells a W).toArray, .slice A l.length c] w (NO W l w):=by
 by_cases γ:nX W l=0
 ·by_cases ab:1000000≤W.now
  ·exact aCB a W A c l w bP az γ ab
  ·exact aCC a W A c l w bP az (by unfold gX;rw [aQV (by simpa using γ),aQV ab])
 ·exact aCA a W A c l w bP az γ
end
section
structure Kept (W V:ag):Prop where
 field:V.field=W.field
 aU:V.aU=W.aU
 now:V.now=W.now
 next:V.next=W.next+((V.ak.length:Int) - W.ak.length)
 len:W.ak.length≤V.ak.length
 old:∀ (i:Nat) (t:bg),W.ak[i]? =some t→∃ u:bg,V.ak[i]? =some u∧ {u with load:=t.load}=t
 new:∀ (i:Nat) (u:bg),W.ak.length≤i→V.ak[i]? =some u→W.next≤u.id
theorem Kept.bI (W:ag):Kept W W:=⟨rfl,rfl,rfl,by omega,aQW _,λ i t h=>⟨t,h,rfl⟩,λ i u h hu=>by
 rw [aRP (by omega)] at hu;cases hu⟩
theorem Kept.t_ {U V W:ag} (h:Kept U V) (k:Kept V W):Kept U W where
 field:=k.field.trans h.field
 aU:=k.aU.trans h.aU
 now:=k.now.trans h.now
 next:=by rw [k.next,h.next];omega
 len:=aRj h.len k.len
 old i t aD:=by
  obtain ⟨u,hu,e⟩:=h.old i t aD;obtain ⟨x,hx,bh⟩:=k.old i u hu;refine ⟨x,hx, ?_⟩;rw [← e,← bh]
 new i u ar hu:=by
  by_cases γ:i<V.ak.length
  ·obtain ⟨t,aD⟩:=hG γ;obtain ⟨x,hx,e⟩:=k.old i t aD;rw [hu] at hx;obtain rfl:=aQL hx;have:=h.new i t ar aD;have cD:t.id=u.id:=by rw [← e]
   omega
  ·have ab:=k.new i u (by omega) hu;have:=h.next;have:=h.len;omega
theorem ahL {W V:ag} {k:Nat} {t:bg} {n:Int} (aD:W.ak[k]? =some t) (hf:V.field=W.field) (Φ:V.aU=W.aU) (hn:V.now=W.now) (hx:V.next=W.next) (kQ:V.ak=W.ak.set k (ag.pb t n)):Kept W V where
 field:=hf
 aU:=Φ
 now:=hn
 next:=by rw [kQ,aQS,hx];omega
 len:=by rw [kQ,aQS];exact aQW _
 old i x ar:=by
  rw [kQ];by_cases av:k=i
  ·subst av;rw [aD] at ar;obtain rfl:=aQL ar;exact ⟨_,aQ9 (aQM.1 aD).1,Z⟩
  ·exact ⟨x,by rw [aRf av];exact ar,rfl⟩
 new i u ar hu:=by
  rw [kQ,aRP (by rw [aQS];exact ar)] at hu;cases hu
theorem axi {W V:ag} {d:ch} (h:Good W) (hd:W.jJ d=some V):Kept W V:=by
 unfold ag.jJ at hd;split at hd
 ·obtain ⟨k,t,_,aD,_,av,az,_,dn,Cb,rfl⟩:=aiv hd;exact ahL aD Z Z Z Z Z
 ·split at hd
  ·obtain ⟨k,t,n,_,aD,_,az,_,hn,PM,rfl⟩:=ac9 hd;exact ahL aD Z Z Z Z Z
  ·split at hd
   ·obtain ⟨c,ml,Wj,mo,av,hp,Cf,tJ,rfl⟩:=aft hd;refine ⟨Z,Z,Z,by simp;omega,by simp,λ i t aD=>⟨t, ?_,rfl⟩,λ i u ar hu=> ?_⟩
    ·simp only;rw [aQ5 (aQM.1 aD).1];exact aD
    ·simp only at hu;rw [aQ8 ar] at hu;have aF:i - W.ak.length=0:=by
      have:=(aQM.1 hu).1;simp at this;omega
     rw [aF] at hu;have e:u=⟨W.next,d.aS,d.what,c,ag.ju d.what,0⟩:=by simpa using hu.symm
     rw [e];exact aSe _
   ·cases hd
theorem axj {W:ag} (h:Good W):∀ l:List ch,Kept W (W.gH l).1:=by
 intro l;induction l generalizing W with
 | nil=>exact Kept.bI W
 | cons d l bt =>
  simp only [ag.gH];cases hd:W.jJ d with
  | none=>exact bt h
  | some V=>exact (axi h hd).t_ (bt (h.jJ hd))
theorem Kept.getD {W V:ag} (h:Kept W V) {i:Nat} (ar:i<W.ak.length): {V.ak.getD i default with load:=(W.ak.getD i default).load}=W.ak.getD i default:=by
 obtain ⟨t,aD⟩:=hG ar;obtain ⟨u,hu,e⟩:=h.old i t aD;rw [aQK,aQK,aD,hu];exact e
theorem aqx {W:ag} {l:List ch} (h:W.qa l=0):Good W∧l.length≤200∧W.ia l=(W.gH l).1∧W.tv l=(W.gH l).2:=by
 have hc:W.bn=0:=by
  cases hd:decide (W.bn=0) with
  | true=>simpa using hd
  | false=>have:=(ac2 (W:=W) (l:=l) (by simpa using hd)).2.2;rw [h] at this;exact this.symm
 have az:l.length≤200:=by
  cases hd:decide (l.length≤200) with
  | true=>simpa using hd
  | false=>have:=(ac3 (W:=W) (l:=l) hc (by simpa using hd)).2.2;rw [h] at this;cases this
 exact ⟨Good.vy hc,az,TM hc az,TN hc az⟩
def ai4:List ch→List Bool→List ch
 | d::l,b::cX=>if b then d::ai4 l cX else ai4 l cX
 | _,_=> []
end
section
theorem akn {W:ag} (h:W.bn=0):gw W []=W∧rG W []= []:=by
 have a_:=Te (l:= []) h (by decide);have hS:=Q7 a_;have fM:fy W []=List.replicate W.ak.length 0:=by unfold fy;rw [a_];rfl
 have hu:An W []=W.ak:=by
  apply aSm;intro i;cases aD:W.ak[i]? with
  | none =>
   have:=List.getElem?_eq_none_iff.1 aD;rw [aRP (by rw [P2];exact this)]
  | some t =>
   rw [P1 aD,fM];have:(List.replicate W.ak.length (0:Int)).getD i 0=0:=by
    rw [aQK,aRW];split<;>rfl
   rw [this,Int.sub_zero]
 have hf:∀ t∈W.ak,0<t.cY:=λ t aD=>by have:=(hS.j5.each aD).2.2.cY;omega
 constructor
 ·rw [hS.bP,hu,List.filter_eq_self.2 λ t aD=>aRi (hf t aD)]
 ·rw [hS.bC,hu,List.filter_eq_nil_iff.2 λ t aD=>by simp [hf t aD]];rfl
theorem aki {f:aE} {T:List bg}:∀ k,jw f [] T k=(T, [])
 | 0=>rfl
 | k+1=>E_ (aki k) (akk (by show gb _ ([]:List dj)<0;unfold gb;simp))
theorem ayt {W:ag} (h:W.bn=0):gV W []=W∧oI W []= []:=by
 obtain ⟨a_,bh,cD⟩:=Qr (W:=W) (l:= []) h (by decide);rw [bh,cD];unfold ag.lJ;rw [aki];exact ⟨Z,Z⟩
theorem aCD {W:ag} {l:List aN} (h:gX W l=0):(nY W l).now=W.now:=by
 obtain ⟨a_,bh,cD,g1,g2,g3⟩:=Yf h;have γ:(ud W l).now=W.now:=by unfold ud;rw [(Q7 a_).bP]
 have ab:(ue W l).now=(ud W l).now:=by unfold ue;rw [(W4 bh).2.2.2.1]
 have aw:(nY W l).now=(ue W l).now:=by unfold nY;rw [(aqx cD).2.2.1];exact (axj g2 _).now
 rw [aw,ab,γ]
theorem aCE {W:ag} {l:List aN} (h:gX W l=0):(ld W l).bn=0∧(ld W l).now=W.now+1∧CI (xr W l)=true∧CI (xt W l)=true:=by
 obtain ⟨γ,ab,aw,aX⟩:=Q9 h;obtain ⟨a_,bh,cD,g1,g2,g3⟩:=Yf h;obtain ⟨kE,z2,z3,z4⟩:=Yh h;have hn:=aCD h;have PM:=(Good.vy aw).now;rw [kE,z2,z3];refine ⟨Good.bn {g3 with now:=⟨?_, ?_⟩}, ?_,(Q7 a_).sorted,(W4 bh).2.2.1⟩
 ·show 0≤(nY W l).now+1;omega
 ·show (nY W l).now+1≤1000000;omega
 ·show (nY W l).now+1=_;omega
def np:List aN:= [⟨0,3,1,⟨2,0⟩,0⟩]
def Yc:ag:=⟨⟨3,1, [0,0,3]⟩, [⟨0,0⟩], [20], [0,0,8], [⟨1,0,1,⟨1,0⟩,10,1⟩],2,1⟩
theorem Yg:gX kC np=0∧ld kC np=Yc∧xr kC np= []∧xt kC np= []∧y1 kC np= [true]:=by
 have hc:kC.bn=0:=by decide +kernel
 have ade:dO kC np np.length= []:=by decide +kernel
 have adK:ei kC np np.length= []:=by decide +kernel
 have adf:eR kC np np.length= [⟨1,1,⟨2,0⟩,0⟩]:=by decide +kernel
 have a_:gX kC np=0:=by decide +kernel
 obtain ⟨kE,z2,z3,z4⟩:=Yh a_;obtain ⟨s1,s2⟩:=akn hc;have t1:ud kC np=kC:=by unfold ud;rw [ade];exact s1
 obtain ⟨m1,m2⟩:=ayt hc;have t2:ue kC np=kC:=by unfold ue;rw [t1,adK];exact m1
 have t3:nY kC np=kC.ia [⟨1,1,⟨2,0⟩,0⟩]:=by unfold nY;rw [t2,adf]
 have hd:kC.ia [⟨1,1,⟨2,0⟩,0⟩]= {Yc with now:=0}:=by decide +kernel
 refine ⟨a_, ?_, ?_, ?_, ?_⟩
 ·rw [kE,t3,hd];rfl
 ·rw [z2,ade];exact s2
 ·rw [z3,t1,adK];exact m2
 ·rw [z4,t2,adf];decide +kernel
end
section
structure gP where
 a:Option Addr
 n:Nat
 c:Nat
instance:Inhabited gP:=⟨⟨none,0,0⟩⟩
def pT:τ gP:=τ.flat 1 (λ v=> [.slice v.a v.n v.c]) (λ _=>True) (λ _ u=>∃ a n c,u= .slice a n c) (λ _=>rfl) (by intro a u hu;simp at hu;subst hu;rfl) (by
 intro a j u hu;cases j with
 | zero=>simp at hu;exact ⟨_,_,_,hu.symm⟩
 | succ j=>simp at hu)
theorem Vv {w:World} {cs:List Value} {a:gP} (h:pT.has w cs a):cs= [.slice a.a a.n a.c]:=aSO (show cs= [.slice a.a a.n a.c]∧True from h)
theorem XI:∀ (j:Nat) u,(Value.slice none 0 0).cells[j]? =some u→pT.raw j u:=by
 intro j u hu;have hu:(#[(.slice none 0 0:Value)]:Array Value)[j]? =some u:=hu
 match j,hu with
 | 0,hu=>exact ⟨_,_,_,(aQL hu).symm⟩
 | j+1,hu=>simp at hu
end
end Go.Proofs.YtlikikpgmmkjbaaGreat
namespace Go.Proofs.YtlikikpgmmkjbaaGreat.Mark
open Tryz
open Go.Proofs.YtlikikpgmmkjbaaGreat.eV

abbrev cT:=BitVec 64
abbrev W:=BitVec 64
def xs (k:Nat) (x:cT):cT:=x ^^^ x >>> k
def c1:cT:=13787848793156543929#64
def c2:cT:=10723151780598845931#64
def UQ:cT:=11400714819323198485#64
def mix (n:cT):cT:=xs 31 (xs 27 (xs 30 (n+UQ) * c1) * c2)
def down (k:Nat) (x:cT):cT:=xs (2 * k) (xs k x)
def HB (x y:cT):cT:=y * (2#64 - x * y)
def other (x:cT):cT:=HB x (HB x (HB x (HB x (HB x (HB x x)))))
def back (n:cT):cT:=down 30 (down 27 (down 31 n * other c2) * other c1) - UQ
section
variable (f:cT→cT)
def Q_ (m n:cT):cT:=m ^^^ f n
def x' (l:List cT) (m:cT):cT:=l.foldl (Q_ f) m
def EZ (l:List cT):cT:=x' f l 0#64
theorem an2 (l:List cT) (x:cT) (m:cT):x' f (l++ [x]) m=Q_ f (x' f l m) x:=by unfold x';rw [aSD];rfl
end
end Go.Proofs.YtlikikpgmmkjbaaGreat.Mark
namespace Go.Proofs.YtlikikpgmmkjbaaGreat
open Tryz
end Go.Proofs.YtlikikpgmmkjbaaGreat
namespace Go.Proofs.YtlikikpgmmkjbaaGreat.Mark
open Tryz
open Go.RowKit Go.Proofs.YtlikikpgmmkjbaaGreat.eV

theorem L3 {a b:Int} (h:a=b):Ending.returned (.int .u64 a)= .returned (.int .u64 b):=by rw [h]

theorem YP (x:Int):IntKind.u64.wrap x=U (BitVec.ofInt 64 x):=by
 refine OV ?_ ?_ (azn x)
 ·rw [aR1];omega
 ·rw [aR1];omega
theorem an0 (a:cT):IntKind.u64.wrap (U a+11400714819323198485)=U (a+UQ):=by
 rw [YP,azf,vx];rfl
theorem ayQ (a:cT):IntKind.u64.wrap (U a * 13787848793156543929)=U (a * c1):=by
 rw [YP,aiM,vx];rfl
theorem ayR (a:cT):IntKind.u64.wrap (U a * 10723151780598845931)=U (a * c2):=by
 rw [YP,aiM,vx];rfl
theorem YR (k:Nat) (a:cT):bits BinOp.xor IntKind.u64 (U a) (U a / 2 ^ k)=U (xs k a):=by
 refine OV (Td _ _ _) (Tc _ _ _) ?_;rw [Xi,aiO (n:=64) (U a) k (NP a) (by have:=anP a;omega),vx];rfl
theorem aEo (a:cT):bits BinOp.xor IntKind.u64 (U a) (U a / 1073741824)=U (xs 30 a):=YR 30 a
theorem aEn (a:cT):bits BinOp.xor IntKind.u64 (U a) (U a / 134217728)=U (xs 27 a):=YR 27 a
theorem aEp (a:cT):bits BinOp.xor IntKind.u64 (U a) (U a / 2147483648)=U (xs 31 a):=YR 31 a
theorem W8 (x:Int) (n:cT) (hx:x=U n) (w:World):
  Calls prog 118 #[.int .u64 x] w fun e w'=>e= .returned (.int .u64 (U (mix n)))∧w=w':=by
 subst hx;go_enter func118,ntmps118;go_wp2
 go_ret;refine ⟨L3 ?_,Z⟩;rw [an0,aEo,ayQ,aEn,ayR,aEp];rfl

end Go.Proofs.YtlikikpgmmkjbaaGreat.Mark
namespace Go.Proofs.YtlikikpgmmkjbaaGreat
open Tryz
end Go.Proofs.YtlikikpgmmkjbaaGreat
namespace Go.Proofs.YtlikikpgmmkjbaaGreat.Mark
open Tryz
open Go.RowKit Go.Proofs.YtlikikpgmmkjbaaGreat.eV


theorem Mh (x y:Int) (m n:cT) (hx:x=U m) (aK:y=U n) (w:World):
  Calls prog 133 #[.int .u64 x, .int .u64 y] w fun e w'=>e= .returned (.int .u64 (U (Q_ mix m n)))∧w=w':=by
 subst hx aK;go_enter func133,ntmps133;go_wp2_with (go_at_call 118;refine (W8 _ n rfl _).mono ?_;rintro e w' ⟨rfl,rfl⟩)
 go_ret;exact ⟨L3 (by refine OV (Td _ _ _) (Tc _ _ _) ?_;rw [Xi,vx,vx];rfl),Z⟩
def DQ (w:World) (a:Option Addr) (n:Nat) (zs:List cT):Prop :=
 n=zs.length∧n≤9223372036854775807∧(zs= []∨∃ b off,a=some ⟨b,off,none⟩∧∀ i (h:i<zs.length),w.cell? ⟨b,off+i,none⟩=some (.int .u64 (U zs[i])))

def DT (qI:List (List cT)) (m:cT):cT:=qI.foldl (fun m l=>x' mix l m) m
theorem an5 (qI:List (List cT)) (l:List cT) (m:cT):DT (qI++ [l]) m=x' mix l (DT qI m):=by unfold DT;rw [aSD];rfl
theorem ako {α:Type} (l:List α) (k:Nat) (h:k<l.length):l.take (k+1)=l.take k++ [l[k]]:=aRh h

theorem an3 (b c:Nat) (vs:List (Option Addr×Nat×Nat)) (qI:List (List cT)) (w:World) (hn:vs.length=qI.length) (hc:c≤100) (hcv:vs.length≤100)
  (jg:∀ i (h:i<vs.length),w.cell? ⟨b,i,none⟩=some (.slice vs[i].1 vs[i].2.1 vs[i].2.2)) (sg:∀ i (h:i<vs.length) (c8:i<qI.length),DQ w vs[i].1 vs[i].2.1 qI[i]):
  Calls prog 93 #[.slice (some ⟨b,0,none⟩) vs.length c] w fun e w'=>e= .returned (.int .u64 (U (DT qI 0#64)))∧w=w':=by
 obtain ⟨N,ew⟩:∃ N,Hid (N=vs.length):=⟨_,aQO rfl⟩;have zq:=aQO jg;have fi:=aQO sg;have p7:=aQO hn;rw [← ew.out] at hcv ⊢;clear jg sg hn;go_enter func93,ntmps93;go_wp2
 go_loop [3,10] (fun v i=>∃ k:Nat,k≤N∧i= .int .i64 k∧v= .int .u64 (U (DT (qI.take k) 0#64))) (fun _ i=>N - (intOf i).toNat)
 case atStart=>exact ⟨0,aRE _,rfl,rfl⟩
 case round =>
  obtain ⟨k,av,rfl,rfl⟩:=hrel;by_cases bA:k<N
  ·have afy:k<vs.length:=by have:=ew.out;omega
   have afz:k<qI.length:=by have:=p7.out;omega
   have γ:=zq.out k afy;have ab:=fi.out k afy afz;obtain ⟨l,aae⟩:∃ l,Hid (qI[k]=l):=⟨_,aQO rfl⟩;rw [aae.out] at ab;generalize vs[k].1=a at γ ab;generalize vs[k].2.1=n at γ ab;generalize vs[k].2.2=bV at γ ab;obtain ⟨aw,aX,bF⟩:=ab;have il:=aQO aw;clear aw;generalize mi:DT (qI.take k) 0#64=M;have J5:DT (qI.take (k+1)) 0#64=x' mix l M:=by rw [ako _ _ afz,an5,mi,aae.out]
   have kJ:=aQO J5;clear mi J5;rcases bF with k7 | ⟨pc,off,rfl,rf⟩
   ·have PM:n=0:=by rw [il.out,k7];rfl
    have amU:=aQO k7;subst PM;clear k7;go_wp2_with fail
    refine wp_loop_rounds 1 ?_;rw [rounds_succ];go_wp2_with fail
    go_round
    case rel=>exact ⟨k+1,by omega,by go_num,by rw [kJ.out,amU.out];rfl⟩
    case measure=>simp [intOf];omega
   ·have amN:=aQO rf;clear rf;go_wp2_with fail
    go_loop [3,16] (fun v i=>∃ q:Nat,q≤n∧i= .int .i64 q∧v= .int .u64 (U (x' mix (l.take q) M))) (fun _ i=>n - (intOf i).toNat)
    case atStart=>exact ⟨0,aRE _,rfl,rfl⟩
    case round =>
     obtain ⟨q,I,rfl,rfl⟩:=hrel;by_cases aJ3:q<n
     ·have af6:q<l.length:=by have:=il.out;omega
      have auJ:=amN.out q af6;generalize tD:l[q]=z at auJ;generalize aeC:x' mix (l.take q) M=M2;have F3:=aQO (show x' mix (l.take (q+1)) M=Q_ mix M2 z by rw [ako _ _ af6,an2,aeC,tD]);clear tD aeC γ;go_wp2_with (go_at_call 133;(with_reducible refine (Mh _ _ M2 z rfl rfl _).mono ?_);rintro e w' ⟨rfl,rfl⟩)
      go_round
      case rel=>exact ⟨q+1,by omega,by go_num,by rw [F3.out]⟩
      case measure=>simp [intOf];omega
     ·have av4:n=q:=by omega
      subst av4;have az:l.take n=l:=aRb (by have:=il.out;omega);rw [az,← kJ.out];clear az γ;go_wp2_with fail
      go_round
      case rel=>exact ⟨k+1,by omega,by go_num,rfl⟩
      case measure=>simp [intOf];omega
  ·have VT:N=k:=by omega
   subst VT;have e:qI.take N=qI:=aRb (by have:=p7.out;have:=ew.out;omega);rw [e];clear e;go_wp2_with fail
   go_ret;exact ⟨Z,Z⟩

theorem DQ.later {w w':World} {a:Option Addr} {n:Nat} {zs:List cT} (h:DQ w a n zs) (Φ:Below w.heap.size w w'):DQ w' a n zs:=by
 obtain ⟨γ,ab,aw⟩:=h;refine ⟨γ,ab, ?_⟩;rcases aw with aw | ⟨b,off,ha,hc⟩
 ·exact .inl aw
 ·refine .inr ⟨b,off,ha,fun i ar=> ?_⟩;rw [Φ.cell (aSJ w _ (hc i ar))];exact hc i ar

theorem an4 (b n c:Nat) (a:Option Addr) (l:List cT) (w:World) (h:w.cell? ⟨b,0,none⟩=some (.slice a n c)) (hs:DQ w a n l):
  Calls prog 93 #[.slice (some ⟨b,0,none⟩) 1 1] w fun e w'=>e= .returned (.int .u64 (U (EZ mix l)))∧w=w':=by
 refine (an3 b 1 [(a,n,c)] [l] w Z (by decide) (by simp) ?_ ?_).mono fun e w' h=>h
 ·intro i ar
  match i,ar with
  | 0,_=>exact h
 ·intro i ar _
  match i,ar with
  | 0,_=>exact hs
theorem Xf (a:Option Addr) (n c:Nat) (l:List cT) (w:World) (hs:DQ w a n l):
  Calls prog 58 #[.slice a n c] w fun e w'=>e= .returned (.int .u64 (U (EZ mix l)))∧Below w.heap.size w w':=by
 have Φ:=(aRe w.heap.size w).alloc (aQW _) (.cells #[.slice a n c] 38);have gq:=hs.later Φ;go_enter func58,ntmps58;go_wp2_with fail
 refine (an4 _ n c a l _ (by simp [aSU]) gq).mono ?_;rintro e w' ⟨rfl,rfl⟩;go_wp2_with fail
 go_ret;exact ⟨Z,Φ⟩

end Go.Proofs.YtlikikpgmmkjbaaGreat.Mark
namespace Go.Proofs.YtlikikpgmmkjbaaGreat
open Tryz
end Go.Proofs.YtlikikpgmmkjbaaGreat
namespace Go.Proofs.YtlikikpgmmkjbaaGreat.Tree
open Tryz
open Go.Proofs.YtlikikpgmmkjbaaGreat.eV Go.Proofs.YtlikikpgmmkjbaaGreat.Mark

def Cq (s:List UInt8):cT:=s.foldl (fun m b=>mix (m ^^^ BitVec.ofNat 64 b.toNat)) (mix (BitVec.ofNat 64 s.length))
def aA3 (b:cT):cT:=b <<<32 ||| b >>> 32
def HL (a b:cT):cT:=mix (mix (a ^^^ aA3 b ^^^ 1#64) ^^^ b)
def lI (n:Nat):Nat:=2 ^ Nat.log2 (n - 1)
def XN:Nat→List (List UInt8)→cT
 | 0,_=>0#64
 | f+1,l=>match l with
  | []=>0#64
  | [s]=>Cq s
  | a::b::r=>HL (XN f ((a::b::r).take (lI (r.length+2)))) (XN f ((a::b::r).drop (lI (r.length+2))))
def QR (l:List (List UInt8)):cT:=XN l.length l
end Go.Proofs.YtlikikpgmmkjbaaGreat.Tree
namespace Go.Proofs.YtlikikpgmmkjbaaGreat
open Tryz
end Go.Proofs.YtlikikpgmmkjbaaGreat
namespace Go.Proofs.YtlikikpgmmkjbaaGreat.Tree
open Tryz
open Go.RowKit Go.Proofs.YtlikikpgmmkjbaaGreat Go.Proofs.YtlikikpgmmkjbaaGreat.eV Go.Proofs.YtlikikpgmmkjbaaGreat.Mark

theorem aEk (a b:cT):bits .xor .u64 (U a) (U b)=U (a ^^^ b):=by
 refine OV (Td _ _ _) (Tc _ _ _) ?_;rw [Xi,vx,vx]
theorem axN (l:List UInt8) (n:Nat) (b:UInt8) (m:cT):(l++ [b]).foldl (fun m b=>mix (m ^^^ BitVec.ofNat 64 b.toNat)) m=mix (l.foldl (fun m b=>mix (m ^^^ BitVec.ofNat 64 b.toNat)) m ^^^ BitVec.ofNat 64 b.toNat):=by rw [aSD];rfl
def upto (s:ByteArray) (k:Nat):cT:=(s.data.toList.take k).foldl (fun m b=>mix (m ^^^ BitVec.ofNat 64 b.toNat)) (mix (BitVec.ofNat 64 s.size))
theorem aDb (s:ByteArray) (k:Nat) (h:k<s.size):upto s (k+1)=mix (upto s k ^^^ BitVec.ofNat 64 s[k].toNat):=by
 unfold upto;have av:k<s.data.toList.length:=by simpa using h
 rw [aRh av,axN _ k];rfl
theorem aDa (s:ByteArray):upto s s.size=Cq s.data.toList:=by
 unfold upto Cq;rw [aRb (by simp)];rfl
theorem aa5 (n:Nat) (h:n<18446744073709551616):((n:Nat):Int)=U (BitVec.ofNat 64 n):=by
 unfold U;rw [aSw,aR5 h]
theorem Hj (s:ByteArray) (hs:s.size≤9223372036854775807) (w:World):Calls prog 83 #[.string s] w fun e w'=>e= .returned (.int .u64 (U (Cq s.data.toList)))∧∃ q,w'=w.drewN q:=by
 have aF:upto s 0=mix (BitVec.ofNat 64 s.size):=rfl;have Pk:=aa5 s.size (by omega);have hm:=W8 _ (BitVec.ofNat 64 s.size) Pk;have dE:=aQO (aDa s);rw [← aF] at hm;have v_:=aQO aF;have hw:IntKind.u64.wrap (s.size:Int)=(s.size:Int):=by rw [aR1];omega
 clear Pk aF;go_enter func83,ntmps83;go_wp2_with fail
 refine (hm _).mono ?_;rintro e w' ⟨rfl,rfl⟩;clear hw;go_wp2_with fail
 go_loop [3,11] (fun m i=>∃ k:Nat,k≤s.size∧i= .int .i64 (k:Int)∧m= .int .u64 (U (upto s k))) (fun _ i=>s.size - (intOf i).toNat)
 case atStart=>exact ⟨0,aRE _,rfl,rfl⟩
 case round =>
  obtain ⟨k,av,rfl,rfl⟩:=hrel;by_cases bA:k<s.size
  ·have Wc:=aDb s k bA;have hx:=aEk (upto s k) (BitVec.ofNat 64 s[k].toNat);rw [← aa5 s[k].toNat (by have:=s[k].toNat_lt;omega)] at hx;have hm:=W8 _ (upto s k ^^^ BitVec.ofNat 64 s[k].toNat) rfl;rw [← Wc] at hm;have fi:=aQO Wc;clear Wc;have aKe:IntKind.u64.wrap (s[k].toNat:Int)=(s[k].toNat:Int):=by have:=s[k].toNat_lt;rw [aR1];omega
   obtain ⟨m2,F3⟩:∃ m2,Hid (upto s (k+1)=m2):=⟨_,aQO rfl⟩;rw [F3.out] at hm;clear fi;generalize upto s k ^^^ BitVec.ofNat 64 s[k].toNat=x at *
   generalize upto s k=m1 at *
   go_wp2_with fail
   refine (hm _).mono ?_;rintro e w' ⟨rfl,rfl⟩;go_wp2_with fail
   go_round
   case rel=>exact ⟨k+1,by omega,by go_num,by rw [F3.out]⟩
   case measure=>simp [intOf];omega
  ·obtain rfl:k=s.size:=by omega
   rw [dE.out];go_wp2_with fail
   go_ret;exact ⟨Z,0,Z⟩
def aph (l:List ByteArray):List Value:=l.map Value.string
def lists (l:List ByteArray):List (List UInt8):=l.map fun s=>s.data.toList
def aGG (l:List ByteArray):Prop:=∀ s∈l,s.size≤9223372036854775807
end Go.Proofs.YtlikikpgmmkjbaaGreat.Tree
namespace Go.Proofs.YtlikikpgmmkjbaaGreat
open Tryz
end Go.Proofs.YtlikikpgmmkjbaaGreat
namespace Go.Proofs.YtlikikpgmmkjbaaGreat.Pack
open Tryz
open Go.Proofs.YtlikikpgmmkjbaaGreat.eV
def jV:Nat→Nat→List UInt8
  | 0,n=> [UInt8.ofNat n]
  | k+1,n=>if n<128 then [UInt8.ofNat n] else UInt8.ofNat (n % 128+128)::jV k (n / 128)
def dW (n:Nat):List UInt8:=jV 9 n
def val:List UInt8→Nat
  | []=>0
  | b::l=>b.toNat % 128+128 * val l

theorem AJ {k n:Nat} (h:n<128):jV k n= [UInt8.ofNat n]:=by
  cases k with
  | zero=>rfl
  | succ k=>unfold jV;rw [aQZ h]
theorem AI {k n:Nat} (h:¬ n<128):jV (k+1) n=UInt8.ofNat (n % 128+128)::jV k (n / 128):=by
  rw [jV];rw [aQV h]
theorem Xu (k n:Nat):(jV k n).length≤k+1∧1≤(jV k n).length:=by
  induction k generalizing n with
  | zero=>simp [jV]
  | succ k bt =>
    by_cases h:n<128
    · rw [AJ h];simp
    · rw [AI h];have:=bt (n / 128);simp;omega
theorem AK (n:Nat):(dW n).length≤10∧1≤(dW n).length:=Xu 9 n

theorem HN {n k:Nat} (h:n<128 ^ (k+2)):n / 128<128 ^ (k+1):=by
  rw [aTU] at h;exact Nat.div_lt_of_lt_mul (by rw [aR3];exact h)
theorem aDf (k n:Nat) (h:n<128 ^ (k+1)):val (jV k n)=n:=by
  induction k generalizing n with
  | zero =>
    have γ:n<128:=by simpa using h
    simp only [jV,val,aRJ];omega
  | succ k bt =>
    by_cases γ:n<128
    · rw [AJ γ]
      simp only [val,aRJ];omega
    · rw [AI γ]
      simp only [val,aRJ];rw [bt (n / 128) (HN h)];omega
theorem EJ {n:Nat} (h:n<18446744073709551616):n<128 ^ (9+1):=aSt h (by decide)
theorem aDg (n:Nat) (h:n<18446744073709551616):val (dW n)=n:=aDf 9 n (EJ h)
theorem aAl (k n i:Nat) (hn:n<128 ^ (k+1)) (h:i+1<(jV k n).length) (ar:i<(jV k n).length):128≤((jV k n)[i]).toNat:=by
  induction k generalizing n i with
  | zero=>simp [jV] at h
  | succ k bt =>
    by_cases γ:n<128
    · simp [AJ γ] at h
    · simp only [AI γ] at h ar ⊢
      cases i with
      | zero=>simp only [aTX,aRJ];omega
      | succ i =>
        simp only [aTY];exact bt (n / 128) i (HN hn) (by simpa using h) (by simpa using ar)
theorem ajj (k n:Nat) (hn:n<128 ^ (k+1)) (i:Nat) (ar:i<(jV k n).length) (az:i+1=(jV k n).length):((jV k n)[i]).toNat<128:=by
  induction k generalizing n i with
  | zero =>
    have γ:n<128:=by simpa using hn
    simp only [jV,aVv,aRJ];omega
  | succ k bt =>
    by_cases γ:n<128
    · simp only [AJ γ,aVv,aRJ]
      omega
    · simp only [AI γ] at az ar ⊢
      cases i with
      | zero =>
        have ab:=(Xu k (n / 128)).2;rw [aQQ] at az;omega
      | succ i =>
        simp only [aTY];exact bt (n / 128) (HN hn) i (by simpa using ar) (by simpa using az)
theorem aDh (l:List UInt8) (b:UInt8):val (l++ [b])=val l+128 ^ l.length * (b.toNat % 128):=by
  induction l with
  | nil=>simp [val]
  | cons x l bt =>
    simp only [aSG,val,bt,aQQ,aTU];rw [Nat.mul_add,← Nat.mul_assoc,aR3 128 (128 ^ l.length)];omega
theorem aDe (l:List UInt8):val l<128 ^ l.length:=by
  induction l with
  | nil=>simp [val]
  | cons x l bt =>
    simp only [val,aQQ,aTU];omega
def IM (l:List UInt8) (n:Nat) (rest:List UInt8) (e:Int):Prop :=
  (∃ k,k<10∧k<l.length∧(∀ i (h:i<l.length),i<k→128≤l[i].toNat)∧(∀ h:k<l.length,l[k].toNat<128)∧
    ((dW (val (l.take (k+1)) % 18446744073709551616)=l.take (k+1)∧n=val (l.take (k+1)) % 18446744073709551616∧rest=l.drop (k+1)∧e=0)∨
     (dW (val (l.take (k+1)) % 18446744073709551616)≠l.take (k+1)∧n=0∧rest= []∧e=4)))∨
  (l.length<10∧(∀ i (h:i<l.length),128≤l[i].toNat)∧n=0∧rest= []∧e=3)∨
  (10≤l.length∧(∀ i (h:i<l.length),i<10→128≤l[i].toNat)∧n=0∧rest= []∧e=4)
def ov (x:Int):Nat:=if 0≤x then (2 * x).toNat else (-2 * x - 1).toNat
end Go.Proofs.YtlikikpgmmkjbaaGreat.Pack
namespace Go.Proofs.YtlikikpgmmkjbaaGreat
open Tryz
end Go.Proofs.YtlikikpgmmkjbaaGreat
