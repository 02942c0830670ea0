import Derived.Test.YtlikikpgmmkjbaaGreatShelf
set_option linter.unusedVariables false
set_option linter.unusedSimpArgs false
set_option maxRecDepth 100000
set_option maxHeartbeats 4000000
open Go.RowKit
namespace Go.Proofs.YtlikikpgmmkjbaaGreat
open Tryz
abbrev aST:=@UInt8.toNat_ofNat'
abbrev aTV:=@Go.World.cell?_alloc_new
abbrev aUQ:=@Nat.pow_succ
abbrev aWj:=@List.getElem_singleton
section
def h5 (W:ah) (l:List aL):Int:=if oj W l≠0 then oj W l else if 1000000≤W.now then 6 else 0
def zm (W:ah) (l:List aL):ah:=gH W (dN W l l.length)
noncomputable def zn (W:ah) (l:List aL):ah:=hi (zm W l) (ep W l l.length)
noncomputable def uF (W:ah) (l:List aL):ah:=(zn W l).iI (eT W l l.length)
noncomputable def oo (W:ah) (l:List aL):ah:=if h5 W l≠0 then ah.zero else {uF W l with now:=(uF W l).now+1}
def zp (W:ah) (l:List aL):List Int:=if h5 W l≠0 then [] else s8 W (dN W l l.length)
noncomputable def zq (W:ah) (l:List aL):List Int:=if h5 W l≠0 then [] else o2 (zm W l) (ep W l l.length)
noncomputable def zo (W:ah) (l:List aL):List Bool:=if h5 W l≠0 then [] else (zn W l).vr (eT W l l.length)
theorem alG {W:ah} {l:List aL} (h:h5 W l≠0):oo W l=ah.zero∧zp W l= []∧zq W l= []∧zo W l= []:=by
 unfold oo zp zq zo;simp only [aR5 h,and_self]
theorem alH {W:ah} {l:List aL} (h:h5 W l=0):oo W l= {uF W l with now:=(uF W l).now+1}∧zp W l=s8 W (dN W l l.length)∧zq W l=o2 (zm W l) (ep W l l.length)∧zo W l=(zn W l).vr (eT W l l.length):=by
 have c6:¬ h5 W l≠0:=by simpa using h
 unfold oo zp zq zo;simp only [aR0 c6,and_self]
theorem RZ {W:ah} {l:List aL} (h:h5 W l=0):oj W l=0∧W.now<1000000∧W.bp=0∧l.length≤100:=by
 unfold h5 at h;split at h
 ·contradiction
 ·rename_i κ
  have κ:oj W l=0:=by simpa using κ
  split at h
  ·exact nomatch h
  ·exact ⟨κ,by omega,(MV κ).2,aC6 κ⟩
theorem arL {W:ah} {l:List ck} (h:W.bp=0) (aB:l.length≤200):W.ry l=0∧W.iI l=(W.h1 l).1:=by
 have e:W.ry l=0:=by unfold ah.ry;rw [aR0 (by omega),aR0 (by omega)]
 exact ⟨e,by unfold ah.iI;rw [aR5 e]⟩
theorem Ub {W:ah} {l:List di} (h:W.bp=0) (aB:l.length≤200):mh W l=0:=by unfold mh;rw [aR0 (by omega),aR0 (by omega)]
theorem aDI {W:ah} {l:List aL} (h:h5 W l=0):mh W (dN W l l.length)=0∧r3 (zm W l) (ep W l l.length)=0∧(zn W l).ry (eT W l l.length)=0∧Good (zm W l)∧Good (zn W l)∧Good (uF W l):=by
 obtain ⟨κ,aa,aw,a6⟩:=RZ h;obtain ⟨kH,eZ,gT⟩:=alk W l l.length;have bc:=Ub (l:=dN W l l.length) aw (by omega);have g1:Good (zm W l):=(alw bc).right;have bl:=(Rb (W:=zm W l) (l:=ep W l l.length) g1.bp (by omega)).1;have g2:Good (zn W l):=(azK bl).1;obtain ⟨cH,iq⟩:=arL (W:=zn W l) (l:=eT W l l.length) g2.bp (by omega);refine ⟨bc,bl,cH,g1,g2, ?_⟩;unfold uF;rw [iq];exact g2.h1 _
def OB (W:ah) (l:List aL) (w:World) (e:Ending) (w':World):Prop :=
 ∃ a' gY bX cq c1 c0 c2,e= .returned (.tuple #[.agg (ah.cells a' (oo W l)).toArray, .agg #[.slice gY (zp W l).length bX, .slice cq (zq W l).length c1, .slice c0 (zo W l).length c2], .int .i64 (h5 W l)])∧bq w' w.heap.size a' (oo W l)∧
  bQ.aF 3 8 w' w.heap.size (τ.ag gY) gY bX (zp W l)∧bQ.aF 3 8 w' w.heap.size (τ.ag cq) cq c1 (zq W l)∧zj.aF 4 1 w' w.heap.size (τ.ag c0) c0 c2 (zo W l)∧
  (∀ q,(q∈τ.ag gY∨q∈τ.ag cq∨q∈τ.ag c0)→q∉bq.b1 a')∧Ext w w'
theorem aDF (a:ah.bZ) (W:ah) (A:Option Addr) (c:Nat) (l:List aL) (w:World) (bN:ah.Has w a W) (aB:aL.rep.aJ 48 w A c l) (κ:oj W l≠0):
  Calls prog 25 #[.agg ((ah.cells a W).toArray), .slice A l.length c] w (OB W l w):=by
 have ec:(oj W l == 0)=false:=by simpa using κ
 have eD:(oj W l != 0)=true:=by simpa using κ
 refine cd (n:=62) func25 Z Z Z ?_;refine aj<|cw Z Z Z Z λ cI bJ a7 dY ab=> ?_;have:=a7.size;have bk:=γ (Ext.bI w) a7;have ed:=ab.lt;refine al Z kK Z Z λ er cu bj ht ae=> ?_;have:=bj.size;have bK:=γ bk bj;have hk:=ae.lt;refine al Z G7 Z Z λ hD h9 b4 qK aI=> ?_;have:=b4.size;have cZ:=γ bK b4;have o5:=aI.lt;refine va Z<|ai<|aj<|vm Z<| ?_;have ab:=ab.later (γ bj b4);refine J (ak Z (ab.all cL bU))<|ca US Z Z ((aC7 _ _ l a W _ (aB.keep cZ) (bN.keep cZ) κ).mono ?_);rintro e nP ⟨rfl,eG⟩;refine ⟨_,Z, ?_⟩;have:=eG.size;have fx:=γ cZ eG;refine vm rfl<|J (ex rfl rfl)<|J (ex rfl rfl)<|J (ex rfl rfl)<|J (ex rfl rfl)<|va rfl<|va rfl<|va rfl<|va rfl<|ai<|az<|aj<|vm rfl<|J (beq rfl rfl)<|vm (gN rfl ec)<|aT (v:=undef) rfl rfl rfl rfl (λ hc=>nomatch hc) rfl<|aT (v:=undef) rfl rfl rfl rfl (λ hc=>nomatch hc) rfl<|aT (v:=undef) rfl rfl rfl rfl (λ hc=>nomatch hc) rfl<|J (s4 rfl rfl)<|ai<|hM rfl<| ?_;refine bt<|az<|aj<|vm Z<|J (bne Z Z)<|ai<|fB (gN Z eD)<|aj<|J (v:= .agg #[.int .i64 0, .int .i64 0, .slice none 0 0, .slice none 0 0, .slice none 0 0, .slice none 0 0, .slice none 0 0, .int .i64 0, .int .i64 0]) (cE Z (by kernel_rfl))<|J (v:= .agg #[.slice none 0 0, .slice none 0 0, .slice none 0 0]) (cE Z (by kernel_rfl))<|vm Z<| ?_;have ae:=ae.later (γ b4 eG);refine st (new:= [.int .i64 0, .int .i64 0, .slice none 0 0, .slice none 0 0, .slice none 0 0, .slice none 0 0, .slice none 0 0, .int .i64 0, .int .i64 0]) Z Z ae Z bU Z Z Z λ sb y7 ae=> ?_;have:=y7.size;have iR:=Ext.mod fx y7 bs;have aI:=aI.later eG;have aI:=aI.mod y7 aN;refine st (new:= [.slice none 0 0, .slice none 0 0, .slice none 0 0]) Z Z aI Z Aq Z Z Z λ se y8 aI=> ?_;have:=y8.size;have gy:=Ext.mod iR y8 bs;refine va Z<|ai<|rt<|bO<| ?_;have ae:=ae.mod y8 aN;refine a8 (.cell Z (ae.all cL bU) (.cell Z (aI.all Ps Aq) (.tmp Z .nil)))<| ?_;have e0:h5 W l=oj W l:=by unfold h5;rw [aR5 κ]
 obtain ⟨mr,z2,z3,z4⟩:=alG (W:=W) (l:=l) (by rw [e0];first | exact κ | decide);exact ⟨⟨none,none,none,none,none,0,0,0,0,0⟩,none,0,none,0,none,0,by rw [e0,mr,z2,z3,z4];rfl,by rw [mr];exact bq.zero _ _,by rw [z2];exact τ.aF.nil _,by rw [z3];exact τ.aF.nil _,by rw [z4];exact τ.aF.nil _,λ q I=>by simp [τ.ag] at I,gy⟩
theorem aDG (a:ah.bZ) (W:ah) (A:Option Addr) (c:Nat) (l:List aL) (w:World) (bN:ah.Has w a W) (aB:aL.rep.aJ 48 w A c l) (κ:oj W l=0) (aa:1000000≤W.now):
  Calls prog 25 #[.agg ((ah.cells a W).toArray), .slice A l.length c] w (OB W l w):=by
 refine cd (n:=62) func25 Z Z Z ?_;refine aj<|cw Z Z Z Z λ cI bJ a7 dY ab=> ?_;have:=a7.size;have bk:=γ (Ext.bI w) a7;have ed:=ab.lt;refine al Z kK Z Z λ er cu bj ht ae=> ?_;have:=bj.size;have bK:=γ bk bj;have hk:=ae.lt;refine al Z G7 Z Z λ hD h9 b4 qK aI=> ?_;have:=b4.size;have cZ:=γ bK b4;have o5:=aI.lt;refine va Z<|ai<|aj<|vm Z<| ?_;have ab:=ab.later (γ bj b4);refine J (ak Z (ab.all cL bU))<|ca US Z Z ((aln _ _ l a W _ (aB.keep cZ) (bN.keep cZ) κ).mono ?_);rintro e se ⟨anb,aqi,S8,aqj,anc,Un,rfl,BW,u5,oF,eB⟩;refine ⟨_,Z, ?_⟩;have:=eB.size;have gy:=γ cZ eB;have FO:=λ q I=>(BW.lt q I).2;have Me:=λ q I=>(BW.lt q I).1;have Zo:=λ q I=>(u5.lt q I).2;have Mf:=λ q I=>(u5.lt q I).1;have ix:=λ q I=>(oF.lt q I).2;have nE:=λ q I=>(oF.lt q I).1;refine vm Z<|J (ex Z Z)<|J (ex Z Z)<|J (ex Z Z)<|J (ex Z Z)<|va Z<|va Z<|va Z<|va Z<|ai<|az<|aj<|vm Z<|J (beq Z Z)<|vm Z<|nO Z Z Z<|J (au ED Z)<|nO Z Z Z<| ?_;have ab:=ab.later eB;refine J (ak Z (ab.one ba Z))<|nO Z Z Z<|J (j3 Z Z)<|J (qT Z Z)<|ai<| ?_;have n7:(decide (1000000≤W.now))=true:=by exact aSo aa
 refine fB (by rw [← n7];rfl)<|rg<|va Z<|ai<|az<|aj<|vm Z<|J (bne Z Z)<|ai<|fB Z<|aj<|J (v:= .agg #[.int .i64 0, .int .i64 0, .slice none 0 0, .slice none 0 0, .slice none 0 0, .slice none 0 0, .slice none 0 0, .int .i64 0, .int .i64 0]) (cE Z (by kernel_rfl))<|J (v:= .agg #[.slice none 0 0, .slice none 0 0, .slice none 0 0]) (cE Z (by kernel_rfl))<|vm Z<| ?_;have ae:=ae.later (γ b4 eB);refine st (new:= [.int .i64 0, .int .i64 0, .slice none 0 0, .slice none 0 0, .slice none 0 0, .slice none 0 0, .slice none 0 0, .int .i64 0, .int .i64 0]) Z Z ae Z bU Z Z Z λ FT A0 ae=> ?_;have:=A0.size;have uU:=Ext.mod gy A0 bs;have aI:=aI.later eB;have aI:=aI.mod A0 aN;refine st (new:= [.slice none 0 0, .slice none 0 0, .slice none 0 0]) Z Z aI Z Aq Z Z Z λ Bo uw aI=> ?_;have:=uw.size;have kZ:=Ext.mod uU uw bs;refine va Z<|ai<|rt<|bO<| ?_;have ae:=ae.mod uw aN;refine a8 (.cell Z (ae.all cL bU) (.cell Z (aI.all Ps Aq) (.tmp Z .nil)))<| ?_;have e0:h5 W l=6:=by unfold h5;rw [aR0 (by simpa using κ),aR5 aa]
 obtain ⟨mr,z2,z3,z4⟩:=alG (W:=W) (l:=l) (by rw [e0];first | exact κ | decide);exact ⟨⟨none,none,none,none,none,0,0,0,0,0⟩,none,0,none,0,none,0,by rw [e0,mr,z2,z3,z4];rfl,by rw [mr];exact bq.zero _ _,by rw [z2];exact τ.aF.nil _,by rw [z3];exact τ.aF.nil _,by rw [z4];exact τ.aF.nil _,λ q I=>by simp [τ.ag] at I,kZ⟩
theorem aDH (a:ah.bZ) (W:ah) (A:Option Addr) (c:Nat) (l:List aL) (w:World) (bN:ah.Has w a W) (aB:aL.rep.aJ 48 w A c l) (aG:h5 W l=0):
  Calls prog 25 #[.agg ((ah.cells a W).toArray), .slice A l.length c] w (OB W l w):=by
 obtain ⟨κ,aa,aw,a6⟩:=RZ aG;obtain ⟨bc,bl,cH,g1,g2,g3⟩:=aDI aG;have awX:0≤(uF W l).now∧(uF W l).now≤1000000:=g3.now;refine cd (n:=62) func25 Z Z Z ?_;refine aj<|cw Z Z Z Z λ cI bJ a7 dY ab=> ?_;have:=a7.size;have bk:=γ (Ext.bI w) a7;have ed:=ab.lt;refine al Z kK Z Z λ er cu bj ht ae=> ?_;have:=bj.size;have bK:=γ bk bj;have hk:=ae.lt;refine al Z G7 Z Z λ hD h9 b4 qK aI=> ?_;have:=b4.size;have cZ:=γ bK b4;have o5:=aI.lt;refine va Z<|ai<|aj<|vm Z<| ?_;have ab:=ab.later (γ bj b4);refine J (ak Z (ab.all cL bU))<|ca US Z Z ((aln _ _ l a W _ (aB.keep cZ) (bN.keep cZ) κ).mono ?_);rintro e se ⟨anb,aqi,S8,aqj,anc,Un,rfl,BW,u5,oF,eB⟩;refine ⟨_,Z, ?_⟩;have:=eB.size;have gy:=γ cZ eB;have FO:=λ q I=>(BW.lt q I).2;have Me:=λ q I=>(BW.lt q I).1;have Zo:=λ q I=>(u5.lt q I).2;have Mf:=λ q I=>(u5.lt q I).1;have ix:=λ q I=>(oF.lt q I).2;have nE:=λ q I=>(oF.lt q I).1;refine vm Z<|J (ex Z Z)<|J (ex Z Z)<|J (ex Z Z)<|J (ex Z Z)<|va Z<|va Z<|va Z<|va Z<|ai<|az<|aj<|vm Z<|J (beq Z Z)<|vm Z<|nO Z Z Z<|J (au ED Z)<|nO Z Z Z<| ?_;have ab:=ab.later eB;refine J (ak Z (ab.one ba Z))<|nO Z Z Z<|J (j3 Z Z)<|J (qT Z Z)<|ai<| ?_;have n7:(decide (1000000≤W.now))=false:=by exact aSt (by omega)
 refine hM (by rw [← n7];rfl)<|bt<|az<|aj<|vm Z<|J (bne Z Z)<|ai<|hM Z<|bt<|aj<|al Z G7 Z Z λ FT aIu kW aMA ma=> ?_;have:=kW.size;have uU:=γ gy kW;have aO5:=ma.lt;refine ai<|aj<| ?_;have ab:=ab.later kW;refine J (ak Z (ab.all cL bU))<|vm Z<| ?_;have BW:=BW.later kW;refine ca aer Z Z ((alu (dN W l (l).length) _ _ a W _ (bN.keep uU) BW.has).mono ?_);rintro e Dy ⟨a40,su,ve,rfl,D6,iW,Wu,eM⟩;refine ⟨_,Z, ?_⟩;have:=eM.size;have qj:=γ uU eM;have uJ:=λ q I=>(D6.lt q I).2;have sS:=λ q I=>(D6.lt q I).1;have Bg:=λ q I=>(iW.lt q I).2;have y2:=λ q I=>(iW.lt q I).1;have aJk:∀ q∈τ.ag su,q∈bq.b1 a40→False:=Wu;have aJu:∀ q∈bq.b1 a40,q∈τ.ag su→False:=λ q κ aa=>Wu q aa κ;refine vm Z<|J (ex Z Z)<|J (ex Z Z)<|J (ex Z Z)<| ?_;have ab:=ab.later eM;refine st Z Z ab Z bU Z Z Z λ IQ y9 ab=> ?_;have:=y9.size;have ow:=Ext.mod qj y9 bs;refine J (au asH Z)<| ?_;have ma:=ma.later eM;have ma:=ma.mod y9 aN;refine st (new:= [.slice su ((s8 W (dN W l (l).length)).length) ve, .slice none 0 0, .slice none 0 0]) Z Z ma Z xg Z Z Z λ FW gQ ma=> ?_;have:=gQ.size;have ox:=Ext.mod ow gQ bs;refine ai<|aj<| ?_;have ab:=ab.mod gQ aN;refine J (ak Z (ab.all cL bU))<|vm Z<| ?_;have u5:=u5.later (γ kW eM);have u5:=u5.mod y9 (bu Mf);have u5:=u5.mod gQ (bD Zo);have D6:=D6.mod y9 (bu sS);have D6:=D6.mod gQ (bu sS);refine ca asI Z Z ((az6 a40 (gH W (dN W l (l).length)) _ _ (ep W l (l).length) _ D6.has u5.has).mono ?_);rintro e Ng ⟨w2,Gq,O1,rfl,nW,k4,HD,tl⟩;refine ⟨_,Z, ?_⟩;have:=tl.size;have sq:=γ ox tl;have Bi:=λ q I=>(nW.lt q I).2;have HY:=λ q I=>(nW.lt q I).1;have Bj:=λ q I=>(k4.lt q I).2;have C4:=λ q I=>(k4.lt q I).1;have aJl:∀ q∈τ.ag Gq,q∈bq.b1 w2→False:=HD;have aJy:∀ q∈bq.b1 w2,q∈τ.ag Gq→False:=λ q κ aa=>HD q aa κ;refine vm Z<|J (ex Z Z)<|J (ex Z Z)<|J (ex Z Z)<| ?_;have ab:=ab.later tl;refine st Z Z ab Z bU Z Z Z λ Nh nG ab=> ?_;have:=nG.size;have qk:=Ext.mod sq nG bs;refine J (au asJ Z)<| ?_;have ma:=ma.later tl;have ma:=ma.mod nG aN;refine st (new:= [.slice su ((s8 W (dN W l (l).length)).length) ve, .slice Gq ((o2 (gH W (dN W l (l).length)) (ep W l (l).length)).length) O1, .slice none 0 0]) Z Z ma Z xg Z Z Z λ amp A2 ma=> ?_;have:=A2.size;have NH:=Ext.mod qk A2 bs;refine ai<|aj<| ?_;have ab:=ab.mod A2 aN;refine J (ak Z (ab.all cL bU))<|vm Z<| ?_;have oF:=oF.later (γ kW eM);have oF:=oF.mod y9 (bu nE);have oF:=oF.mod gQ (bD ix);have oF:=oF.later tl;have oF:=oF.mod nG (bu nE);have oF:=oF.mod A2 (bD ix);have nW:=nW.mod nG (bu HY);have nW:=nW.mod A2 (bu HY);refine ca asK Z Z ((arR (eT W l (l).length) _ _ _ w2 (hi (gH W (dN W l (l).length)) (ep W l (l).length)) nW.has oF.has).mono ?_);rintro e FZ ⟨lq,Jm,Up,rfl,mf,nY,agl,cG⟩;refine ⟨_,Z, ?_⟩;have:=cG.size;have na:=γ NH cG;have M7:=λ q I=>(mf.lt q I).2;have Fi:=λ q I=>(mf.lt q I).1;have aQy:=λ q I=>(nY.lt q I).2;have Mh:=λ q I=>(nY.lt q I).1;have arD:∀ q∈τ.ag Jm,q∈bq.b1 lq→False:=agl;have aJI:∀ q∈bq.b1 lq,q∈τ.ag Jm→False:=λ q κ aa=>agl q aa κ;refine vm Z<|J (ex Z Z)<|J (ex Z Z)<|J (ex Z Z)<| ?_;have ab:=ab.later cG;refine st Z Z ab Z bU Z Z Z λ Dz gV ab=> ?_;have:=gV.size;have qm:=Ext.mod na gV bs;refine J (au asL Z)<| ?_;have ma:=ma.later cG;have ma:=ma.mod gV aN;refine st (new:= [.slice su ((s8 W (dN W l (l).length)).length) ve, .slice Gq ((o2 (gH W (dN W l (l).length)) (ep W l (l).length)).length) O1, .slice Jm (((hi (gH W (dN W l (l).length)) (ep W l (l).length)).vr (eT W l (l).length)).length) Up]) Z Z ma Z asM Z Z Z λ ZH uy ma=> ?_;have:=uy.size;have Gi:=Ext.mod qm uy bs;refine ai<|aj<|J (au ED Z)<| ?_;have ab:=ab.mod uy aN;refine J (ak Z (ab.one ba Z))<|J (bad Z Z (bH ((by have I:_∧_:=awX;unfold uF zn zm at I;omega))))<|J (au ED Z)<|st (new:= [.int .i64 (((hi (gH W (dN W l (l).length)) (ep W l (l).length)).iI (eT W l (l).length)).field.wide), .int .i64 (((hi (gH W (dN W l (l).length)) (ep W l (l).length)).iI (eT W l (l).length)).field.high), .slice lq.P (((hi (gH W (dN W l (l).length)) (ep W l (l).length)).iI (eT W l (l).length)).field.aS.length) lq.p, .slice lq.B (((hi (gH W (dN W l (l).length)) (ep W l (l).length)).iI (eT W l (l).length)).aU.length) lq.b, .slice lq.S (((hi (gH W (dN W l (l).length)) (ep W l (l).length)).iI (eT W l (l).length)).bh.length) lq.s, .slice lq.M (((hi (gH W (dN W l (l).length)) (ep W l (l).length)).iI (eT W l (l).length)).br.length) lq.m, .slice lq.T (((hi (gH W (dN W l (l).length)) (ep W l (l).length)).iI (eT W l (l).length)).ao.length) lq.t, .int .i64 (((hi (gH W (dN W l (l).length)) (ep W l (l).length)).iI (eT W l (l).length)).next), .int .i64 ((((hi (gH W (dN W l (l).length)) (ep W l (l).length)).iI (eT W l (l).length)).now)+1)]) Z Z ab Z dr Z Z Z λ St sZ ab=> ?_;have:=sZ.size;have BD:=Ext.mod Gi sZ bs;refine ai<|az<| ?_;refine RE [cu] [(0,0),(1,0),(2,2),(3,3)] [0,1,2,3,4] (by kernel_rfl) (by kernel_rfl) ?_;refine yO Z Z (λ _ x=>ak Z ((ab.mod x aN).all cL bU)) Z<| ?_;have ma:=ma.mod sZ aN;refine yO Z Z (λ _ x=>ak Z ((ma.mod x aN).all Ps Aq)) Z<| ?_;have ae:=ae.later (γ b4 (γ eB (γ kW eM)));have ae:=ae.mod y9 aN;have ae:=ae.mod gQ aN;have ae:=ae.later tl;have ae:=ae.mod nG aN;have ae:=ae.mod A2 aN;have ae:=ae.later cG;have ae:=ae.mod gV aN;have ae:=ae.mod uy aN;have ae:=ae.mod sZ aN;refine EK Z Z Z λ Su gq Q hK=>st (new:= [.int .i64 (((hi (gH W (dN W l (l).length)) (ep W l (l).length)).iI (eT W l (l).length)).field.wide), .int .i64 (((hi (gH W (dN W l (l).length)) (ep W l (l).length)).iI (eT W l (l).length)).field.high), .slice lq.P (((hi (gH W (dN W l (l).length)) (ep W l (l).length)).iI (eT W l (l).length)).field.aS.length) lq.p, .slice lq.B (((hi (gH W (dN W l (l).length)) (ep W l (l).length)).iI (eT W l (l).length)).aU.length) lq.b, .slice lq.S (((hi (gH W (dN W l (l).length)) (ep W l (l).length)).iI (eT W l (l).length)).bh.length) lq.s, .slice lq.M (((hi (gH W (dN W l (l).length)) (ep W l (l).length)).iI (eT W l (l).length)).br.length) lq.m, .slice lq.T (((hi (gH W (dN W l (l).length)) (ep W l (l).length)).iI (eT W l (l).length)).ao.length) lq.t, .int .i64 (((hi (gH W (dN W l (l).length)) (ep W l (l).length)).iI (eT W l (l).length)).next), .int .i64 ((((hi (gH W (dN W l (l).length)) (ep W l (l).length)).iI (eT W l (l).length)).now)+1)]) Z Z (ae.later gq) Z bU Z Z Z λ F1 kS ae=>hK _ _ ⟨(Mod.bz gq).trans kS, ?_⟩;have:=gq.size;have BE:=γ BD gq;have:=kS.size;have q6:=Ext.mod BE kS bs;have aI:=aI.later (γ eB (γ kW eM));have aI:=aI.mod y9 aN;have aI:=aI.mod gQ aN;have aI:=aI.later tl;have aI:=aI.mod nG aN;have aI:=aI.mod A2 aN;have aI:=aI.later cG;have aI:=aI.mod gV aN;have aI:=aI.mod uy aN;have aI:=aI.mod sZ aN;have aI:=aI.later gq;have aI:=aI.mod kS aN;refine Vm Z Z Z λ Nl kd Q hK=>st (new:= [.slice su ((s8 W (dN W l (l).length)).length) ve, .slice Gq ((o2 (gH W (dN W l (l).length)) (ep W l (l).length)).length) O1, .slice Jm (((hi (gH W (dN W l (l).length)) (ep W l (l).length)).vr (eT W l (l).length)).length) Up]) Z Z (aI.later kd) Z Aq Z Z Z λ IL l0 aI=>hK _ _ ?_;have:=kd.size;have q7:=γ q6 kd;have:=l0.size;have Nu:=Ext.mod q7 l0 bs;refine jB Z Z (λ _=>ew Z) Z<|PO λ Sl DD=> ?_;have:=DD.size;have zC:=γ Nu DD;refine aV<|rt<| ?_;have ae:=ae.later kd;have ae:=ae.mod l0 aN;have ae:=ae.later DD;have aI:=aI.later DD;refine a8 (.cell Z (ae.all cL bU) (.cell Z (aI.all Ps Aq) (.tmp Z .nil)))<| ?_;have mf:=mf.mod gV (bu Fi);have mf:=mf.mod uy (bu Fi);have mf:=mf.mod sZ (bu Fi);have mf:=mf.later gq;have mf:=mf.mod kS (bu Fi);have mf:=mf.later kd;have mf:=mf.mod l0 (bu Fi);have mf:=mf.later DD;have iW:=iW.mod y9 (bu y2);have iW:=iW.mod gQ (bu y2);have iW:=iW.later tl;have iW:=iW.mod nG (bu y2);have iW:=iW.mod A2 (bu y2);have iW:=iW.later cG;have iW:=iW.mod gV (bu y2);have iW:=iW.mod uy (bu y2);have iW:=iW.mod sZ (bu y2);have iW:=iW.later gq;have iW:=iW.mod kS (bu y2);have iW:=iW.later kd;have iW:=iW.mod l0 (bu y2);have iW:=iW.later DD;have k4:=k4.mod nG (bu C4);have k4:=k4.mod A2 (bu C4);have k4:=k4.later cG;have k4:=k4.mod gV (bu C4);have k4:=k4.mod uy (bu C4);have k4:=k4.mod sZ (bu C4);have k4:=k4.later gq;have k4:=k4.mod kS (bu C4);have k4:=k4.later kd;have k4:=k4.mod l0 (bu C4);have k4:=k4.later DD;have nY:=nY.mod gV (bu Mh);have nY:=nY.mod uy (bu Mh);have nY:=nY.mod sZ (bu Mh);have nY:=nY.later gq;have nY:=nY.mod kS (bu Mh);have nY:=nY.later kd;have nY:=nY.mod l0 (bu Mh);have nY:=nY.later DD;obtain ⟨mr,z2,z3,z4⟩:=alH aG;have hR:bq Sl w.heap.size lq (oo W l):=by rw [mr];exact (mf.down (by omega)).ak5 Z Z Z Z Z ⟨mf.nums.1,mf.nums.2.1,mf.nums.2.2.1,bG.2 (by show _≤(uF W l).now+1∧(uF W l).now+1≤_;omega)⟩
 exact ⟨lq,su,ve,Gq,O1,Jm,Up,by rw [aG,mr,z2,z3,z4];rfl,hR,by rw [z2];exact iW.down (by omega),by rw [z3];exact k4.down (by omega),by rw [z4];exact nY.down (by omega),λ q I hf=>I.elim (λ I=>by exfalso;(have:=Fi q hf;(have:=Bg q I;omega))) (λ I=>I.elim (λ I=>by exfalso;(have:=Fi q hf;(have:=Bj q I;omega))) (λ I=>by exfalso;(exact arD q I hf))),zC⟩
theorem MZ (a:ah.bZ) (W:ah) (A:Option Addr) (c:Nat) (l:List aL) (w:World) (bN:ah.Has w a W) (aB:aL.rep.aJ 48 w A c l):Calls prog 25 #[.agg (ah.cells a W).toArray, .slice A l.length c] w (OB W l w):=by
 by_cases κ:oj W l=0
 ·by_cases aa:1000000≤W.now
  ·exact aDG a W A c l w bN aB κ aa
  ·exact aDH a W A c l w bN aB (by unfold h5;rw [aR0 (by simpa using κ),aR0 aa])
 ·exact aDF a W A c l w bN aB κ
end
section
structure Kept (W V:ah):Prop where
 field:V.field=W.field
 aU:V.aU=W.aU
 now:V.now=W.now
 next:V.next=W.next+((V.ao.length:Int) - W.ao.length)
 len:W.ao.length≤V.ao.length
 old:∀ (i:Nat) (t:bf),W.ao[i]? =some t→∃ u:bf,V.ao[i]? =some u∧ {u with load:=t.load}=t
 new:∀ (i:Nat) (u:bf),W.ao.length≤i→V.ao[i]? =some u→W.next≤u.id
theorem Kept.wa {U V W:ah} (h:Kept U V) (k:Kept V W):Kept U W where
 field:=k.field.trans h.field
 aU:=k.aU.trans h.aU
 now:=k.now.trans h.now
 next:=by rw [k.next,h.next];omega
 len:=aSn h.len k.len
 old i t aE:=by
  obtain ⟨u,hu,e⟩:=h.old i t aE;obtain ⟨x,hx,bl⟩:=k.old i u hu;refine ⟨x,hx, ?_⟩;rw [← e,← bl]
 new i u ar hu:=by
  by_cases κ:i<V.ao.length
  ·obtain ⟨t,aE⟩:=hP κ;obtain ⟨x,hx,e⟩:=k.old i t aE;rw [hu] at hx;obtain rfl:=aRR hx;have:=h.new i t ar aE;have cH:t.id=u.id:=by rw [← e]
   omega
  ·have aa:=k.new i u (by omega) hu;have:=h.next;have:=h.len;omega
theorem Kept.getD {W V:ah} (h:Kept W V) {i:Nat} (ar:i<W.ao.length): {V.ao.getD i default with load:=(W.ao.getD i default).load}=W.ao.getD i default:=by
 obtain ⟨t,aE⟩:=hP ar;obtain ⟨u,hu,e⟩:=h.old i t aE;rw [aRQ,aRQ,aE,hu];exact e
def aka:List ck→List Bool→List ck
 | d::l,b::cV=>if b then d::aka l cV else aka l cV
 | _,_=> []
end
section
theorem alv {W:ah} (h:W.bp=0):gH W []=W∧s8 W []= []:=by
 have bc:=Ub (l:= []) h (by decide);have hS:=alw bc;have fS:fD W []=List.replicate W.ao.length 0:=by unfold fD;rw [bc];rfl
 have hu:AP W []=W.ao:=by
  apply aTq;intro i;cases aE:W.ao[i]? with
  | none =>
   have:=List.getElem?_eq_none_iff.1 aE;rw [aTd (by rw [QL];exact this)]
  | some t =>
   rw [QK aE,fS];have:(List.replicate W.ao.length (0:Int)).getD i 0=0:=by
    rw [aRQ,aSY];split<;>rfl
   rw [this,Int.sub_zero]
 have hf:∀ t∈W.ao,0<t.c7:=λ t aE=>by have:=(hS.jN.each aE).2.2.c7;omega
 constructor
 ·rw [hS.bN,hu,List.filter_eq_self.2 λ t aE=>aSo (hf t aE)]
 ·rw [hS.bB,hu,List.filter_eq_nil_iff.2 λ t aE=>by simp [hf t aE]];rfl
theorem alq {f:aD} {T:List bf}:∀ k,jS f [] T k=(T, [])
 | 0=>rfl
 | k+1=>FL (alq k) (als (by show gm _ ([]:List dj)<0;unfold gm;simp))
theorem azJ {W:ah} (h:W.bp=0):hi W []=W∧o2 W []= []:=by
 obtain ⟨bc,bl,cH⟩:=Rb (W:=W) (l:= []) h (by decide);rw [bl,cH];unfold ah.l5;rw [alq];exact ⟨Z,Z⟩
def nN:List aL:= [⟨0,3,1,⟨2,0⟩,0⟩]
def Zg:ah:=⟨⟨3,1, [0,0,3]⟩, [⟨0,0⟩], [20], [0,0,8], [⟨1,0,1,⟨1,0⟩,10,1⟩],2,1⟩
theorem Zk:h5 kV nN=0∧oo kV nN=Zg∧zp kV nN= []∧zq kV nN= []∧zo kV nN= [true]:=by
 have hc:kV.bp=0:=by decide +kernel
 have aei:dN kV nN nN.length= []:=by decide +kernel
 have aeR:ep kV nN nN.length= []:=by decide +kernel
 have aej:eT kV nN nN.length= [⟨1,1,⟨2,0⟩,0⟩]:=by decide +kernel
 have bc:h5 kV nN=0:=by decide +kernel
 obtain ⟨mr,z2,z3,z4⟩:=alH bc;obtain ⟨s1,s2⟩:=alv hc;have t1:zm kV nN=kV:=by unfold zm;rw [aei];exact s1
 obtain ⟨m1,m2⟩:=azJ hc;have t2:zn kV nN=kV:=by unfold zn;rw [t1,aeR];exact m1
 have t3:uF kV nN=kV.iI [⟨1,1,⟨2,0⟩,0⟩]:=by unfold uF;rw [t2,aej]
 have hd:kV.iI [⟨1,1,⟨2,0⟩,0⟩]= {Zg with now:=0}:=by decide +kernel
 refine ⟨bc, ?_, ?_, ?_, ?_⟩
 ·rw [mr,t3,hd];rfl
 ·rw [z2,aei];exact s2
 ·rw [z3,t1,aeR];exact m2
 ·rw [z4,t2,aej];decide +kernel
end
section
structure gL where
 a:Option Addr
 n:Nat
 c:Nat
instance:Inhabited gL:=⟨⟨none,0,0⟩⟩
def o7:τ gL:=τ.flat 1 (λ v=> [.slice v.a v.n v.c]) (λ _=>True) (λ _ u=>∃ a n c,u= .slice a n c) (λ _=>rfl) (by intro a u hu;simp at hu;subst hu;rfl) (by
 intro a j u hu;cases j with
 | zero=>simp at hu;exact ⟨_,_,_,hu.symm⟩
 | succ j=>simp at hu)
theorem Wr {w:World} {cs:List Value} {a:gL} (h:o7.has w cs a):cs= [.slice a.a a.n a.c]:=aTQ (show cs= [.slice a.a a.n a.c]∧True from h)
theorem YO:∀ (j:Nat) u,(Value.slice none 0 0).cells[j]? =some u→o7.raw j u:=by
 intro j u hu;have hu:(#[(.slice none 0 0:Value)]:Array Value)[j]? =some u:=hu
 match j,hu with
 | 0,hu=>exact ⟨_,_,_,(aRR hu).symm⟩
 | j+1,hu=>simp at hu
end
end Go.Proofs.YtlikikpgmmkjbaaGreat
namespace Go.Proofs.YtlikikpgmmkjbaaGreat.Mark
open Tryz
open Go.Proofs.YtlikikpgmmkjbaaGreat.fy

abbrev cX:=BitVec 64
abbrev W:=BitVec 64
def xs (k:Nat) (x:cX):cX:=x ^^^ x >>> k
def c1:cX:=13787848793156543929#64
def c2:cX:=10723151780598845931#64
def VN:cX:=11400714819323198485#64
def mix (n:cX):cX:=xs 31 (xs 27 (xs 30 (n+VN) * c1) * c2)
def down (k:Nat) (x:cX):cX:=xs (2 * k) (xs k x)
def Ie (x y:cX):cX:=y * (2#64 - x * y)
def other (x:cX):cX:=Ie x (Ie x (Ie x (Ie x (Ie x (Ie x x)))))
def back (n:cX):cX:=down 30 (down 27 (down 31 n * other c2) * other c1) - VN
section
variable (f:cX→cX)
def R0 (m n:cX):cX:=m ^^^ f n
def yw (l:List cX) (m:cX):cX:=l.foldl (R0 f) m
def FB (l:List cX):cX:=yw f l 0#64
theorem apg (l:List cX) (x:cX) (m:cX):yw f (l++ [x]) m=R0 f (yw f l m) x:=by unfold yw;rw [aTo];rfl
end
end Go.Proofs.YtlikikpgmmkjbaaGreat.Mark
namespace Go.Proofs.YtlikikpgmmkjbaaGreat
open Tryz
end Go.Proofs.YtlikikpgmmkjbaaGreat
namespace Go.Proofs.YtlikikpgmmkjbaaGreat.Mark
open Tryz
open Go.RowKit Go.Proofs.YtlikikpgmmkjbaaGreat.fy

theorem MI {a b:Int} (h:a=b):Ending.returned (.int .u64 a)= .returned (.int .u64 b):=by rw [h]

theorem ZN (x:Int):IntKind.u64.wrap x=U (BitVec.ofInt 64 x):=by
 refine PI ?_ ?_ (aAF x)
 ·rw [aS2];omega
 ·rw [aS2];omega
theorem ape (a:cX):IntKind.u64.wrap (U a+11400714819323198485)=U (a+VN):=by
 rw [ZN,aAx,vW];rfl
theorem az8 (a:cX):IntKind.u64.wrap (U a * 13787848793156543929)=U (a * c1):=by
 rw [ZN,ajS,vW];rfl
theorem az9 (a:cX):IntKind.u64.wrap (U a * 10723151780598845931)=U (a * c2):=by
 rw [ZN,ajS,vW];rfl
theorem ZQ (k:Nat) (a:cX):bits BinOp.xor IntKind.u64 (U a) (U a / 2 ^ k)=U (xs k a):=by
 refine PI (Ua _ _ _) (T' _ _ _) ?_;rw [Yn,ajU (n:=64) (U a) k (TN a) (by have:=ao1 a;omega),vW];rfl
theorem aFw (a:cX):bits BinOp.xor IntKind.u64 (U a) (U a / 1073741824)=U (xs 30 a):=ZQ 30 a
theorem aFv (a:cX):bits BinOp.xor IntKind.u64 (U a) (U a / 134217728)=U (xs 27 a):=ZQ 27 a
theorem aFx (a:cX):bits BinOp.xor IntKind.u64 (U a) (U a / 2147483648)=U (xs 31 a):=ZQ 31 a
theorem Ya (x:Int) (n:cX) (hx:x=U n) (w:World):
  Calls prog 118 #[.int .u64 x] w fun e w'=>e= .returned (.int .u64 (U (mix n)))∧w=w':=by
 subst hx;go_enter func118,ntmps118;go_wp2
 go_ret;refine ⟨MI ?_,Z⟩;rw [ape,aFw,az8,aFv,az9,aFx];rfl

end Go.Proofs.YtlikikpgmmkjbaaGreat.Mark
namespace Go.Proofs.YtlikikpgmmkjbaaGreat
open Tryz
end Go.Proofs.YtlikikpgmmkjbaaGreat
namespace Go.Proofs.YtlikikpgmmkjbaaGreat.Mark
open Tryz
open Go.RowKit Go.Proofs.YtlikikpgmmkjbaaGreat.fy


theorem MZ (x y:Int) (m n:cX) (hx:x=U m) (aK:y=U n) (w:World):
  Calls prog 133 #[.int .u64 x, .int .u64 y] w fun e w'=>e= .returned (.int .u64 (U (R0 mix m n)))∧w=w':=by
 subst hx aK;go_enter func133,ntmps133;go_wp2_with (go_at_call 118;refine (Ya _ n rfl _).mono ?_;rintro e w' ⟨rfl,rfl⟩)
 go_ret;exact ⟨MI (by refine PI (Ua _ _ _) (T' _ _ _) ?_;rw [Yn,vW,vW];rfl),Z⟩
def Eo (w:World) (a:Option Addr) (n:Nat) (zs:List cX):Prop :=
 n=zs.length∧n≤9223372036854775807∧(zs= []∨∃ b off,a=some ⟨b,off,none⟩∧∀ i (h:i<zs.length),w.cell? ⟨b,off+i,none⟩=some (.int .u64 (U zs[i])))

def Er (q8:List (List cX)) (m:cX):cX:=q8.foldl (fun m l=>yw mix l m) m
theorem apj (q8:List (List cX)) (l:List cX) (m:cX):Er (q8++ [l]) m=yw mix l (Er q8 m):=by unfold Er;rw [aTo];rfl
theorem alx {α:Type} (l:List α) (k:Nat) (h:k<l.length):l.take (k+1)=l.take k++ [l[k]]:=aSk h

theorem aph (b c:Nat) (vs:List (Option Addr×Nat×Nat)) (q8:List (List cX)) (w:World) (hn:vs.length=q8.length) (hc:c≤100) (hcv:vs.length≤100)
  (jE:∀ i (h:i<vs.length),w.cell? ⟨b,i,none⟩=some (.slice vs[i].1 vs[i].2.1 vs[i].2.2)) (sP:∀ i (h:i<vs.length) (c6:i<q8.length),Eo w vs[i].1 vs[i].2.1 q8[i]):
  Calls prog 93 #[.slice (some ⟨b,0,none⟩) vs.length c] w fun e w'=>e= .returned (.int .u64 (U (Er q8 0#64)))∧w=w':=by
 obtain ⟨N,fa⟩:∃ N,Hid (N=vs.length):=⟨_,aRV rfl⟩;have zR:=aRV jE;have fp:=aRV sP;have qs:=aRV hn;rw [← fa.out] at hcv ⊢;clear jE sP hn;go_enter func93,ntmps93;go_wp2
 go_loop [3,10] (fun v i=>∃ k:Nat,k≤N∧i= .int .i64 k∧v= .int .u64 (U (Er (q8.take k) 0#64))) (fun _ i=>N - (intOf i).toNat)
 case atStart=>exact ⟨0,aSG _,rfl,rfl⟩
 case round =>
  obtain ⟨k,av,rfl,rfl⟩:=hrel;by_cases bC:k<N
  ·have agA:k<vs.length:=by have:=fa.out;omega
   have agB:k<q8.length:=by have:=qs.out;omega
   have κ:=zR.out k agA;have aa:=fp.out k agA agB;obtain ⟨l,abj⟩:∃ l,Hid (q8[k]=l):=⟨_,aRV rfl⟩;rw [abj.out] at aa;generalize vs[k].1=a at κ aa;generalize vs[k].2.1=n at κ aa;generalize vs[k].2.2=b8 at κ aa;obtain ⟨aw,a6,bL⟩:=aa;have jq:=aRV aw;clear aw;generalize pO:Er (q8.take k) 0#64=M;have KJ:Er (q8.take (k+1)) 0#64=yw mix l M:=by rw [alx _ _ agB,apj,pO,abj.out]
   have k1:=aRV KJ;clear pO KJ;rcases bL with mM | ⟨pH,off,rfl,rO⟩
   ·have agQ:n=0:=by rw [jq.out,mM];rfl
    have an7:=aRV mM;subst agQ;clear mM;go_wp2_with fail
    refine wp_loop_rounds 1 ?_;rw [rounds_succ];go_wp2_with fail
    go_round
    case rel=>exact ⟨k+1,by omega,by go_num,by rw [k1.out,an7.out];rfl⟩
    case measure=>simp [intOf];omega
   ·have an0:=aRV rO;clear rO;go_wp2_with fail
    go_loop [3,16] (fun v i=>∃ q:Nat,q≤n∧i= .int .i64 q∧v= .int .u64 (U (yw mix (l.take q) M))) (fun _ i=>n - (intOf i).toNat)
    case atStart=>exact ⟨0,aSG _,rfl,rfl⟩
    case round =>
     obtain ⟨q,I,rfl,rfl⟩:=hrel;by_cases aLc:q<n
     ·have W6:q<l.length:=by have:=jq.out;omega
      have avU:=an0.out q W6;generalize sL:l[q]=z at avU;generalize afF:yw mix (l.take q) M=M2;have Gx:=aRV (show yw mix (l.take (q+1)) M=R0 mix M2 z by rw [alx _ _ W6,apg,afF,sL]);clear sL afF κ;go_wp2_with (go_at_call 133;(with_reducible refine (MZ _ _ M2 z rfl rfl _).mono ?_);rintro e w' ⟨rfl,rfl⟩)
      go_round
      case rel=>exact ⟨q+1,by omega,by go_num,by rw [Gx.out]⟩
      case measure=>simp [intOf];omega
     ·have axe:n=q:=by omega
      subst axe;have aB:l.take n=l:=aSh (by have:=jq.out;omega);rw [aB,← k1.out];clear aB κ;go_wp2_with fail
      go_round
      case rel=>exact ⟨k+1,by omega,by go_num,rfl⟩
      case measure=>simp [intOf];omega
  ·have WT:N=k:=by omega
   subst WT;have e:q8.take N=q8:=aSh (by have:=qs.out;have:=fa.out;omega);rw [e];clear e;go_wp2_with fail
   go_ret;exact ⟨Z,Z⟩

theorem Eo.later {w w':World} {a:Option Addr} {n:Nat} {zs:List cX} (h:Eo w a n zs) (Φ:Below w.heap.size w w'):Eo w' a n zs:=by
 obtain ⟨κ,aa,aw⟩:=h;refine ⟨κ,aa, ?_⟩;rcases aw with aw | ⟨b,off,ha,hc⟩
 ·exact .inl aw
 ·refine .inr ⟨b,off,ha,fun i ar=> ?_⟩;rw [Φ.cell (aTL w _ (hc i ar))];exact hc i ar

theorem api (b n c:Nat) (a:Option Addr) (l:List cX) (w:World) (h:w.cell? ⟨b,0,none⟩=some (.slice a n c)) (hs:Eo w a n l):
  Calls prog 93 #[.slice (some ⟨b,0,none⟩) 1 1] w fun e w'=>e= .returned (.int .u64 (U (FB mix l)))∧w=w':=by
 refine (aph b 1 [(a,n,c)] [l] w Z (by decide) (by simp) ?_ ?_).mono fun e w' h=>h
 ·intro i ar
  match i,ar with
  | 0,_=>exact h
 ·intro i ar _
  match i,ar with
  | 0,_=>exact hs
theorem Yk (a:Option Addr) (n c:Nat) (l:List cX) (w:World) (hs:Eo w a n l):
  Calls prog 58 #[.slice a n c] w fun e w'=>e= .returned (.int .u64 (U (FB mix l)))∧Below w.heap.size w w':=by
 have Φ:=(aSm w.heap.size w).alloc (aR3 _) (.cells #[.slice a n c] 38);have gD:=hs.later Φ;go_enter func58,ntmps58;go_wp2_with fail
 refine (api _ n c a l _ (by simp [aTV]) gD).mono ?_;rintro e w' ⟨rfl,rfl⟩;go_wp2_with fail
 go_ret;exact ⟨Z,Φ⟩

end Go.Proofs.YtlikikpgmmkjbaaGreat.Mark
namespace Go.Proofs.YtlikikpgmmkjbaaGreat
open Tryz
end Go.Proofs.YtlikikpgmmkjbaaGreat
namespace Go.Proofs.YtlikikpgmmkjbaaGreat.Tree
open Tryz
open Go.Proofs.YtlikikpgmmkjbaaGreat.fy Go.Proofs.YtlikikpgmmkjbaaGreat.Mark

def C3 (s:List UInt8):cX:=s.foldl (fun m b=>mix (m ^^^ BitVec.ofNat 64 b.toNat)) (mix (BitVec.ofNat 64 s.length))
def aCm (b:cX):cX:=b <<<32 ||| b >>> 32
def Iq (a b:cX):cX:=mix (mix (a ^^^ aCm b ^^^ 1#64) ^^^ b)
def l4 (n:Nat):Nat:=2 ^ Nat.log2 (n - 1)
def YT:Nat→List (List UInt8)→cX
 | 0,_=>0#64
 | f+1,l=>match l with
  | []=>0#64
  | [s]=>C3 s
  | a::b::r=>Iq (YT f ((a::b::r).take (l4 (r.length+2)))) (YT f ((a::b::r).drop (l4 (r.length+2))))
def RG (l:List (List UInt8)):cX:=YT l.length l
end Go.Proofs.YtlikikpgmmkjbaaGreat.Tree
namespace Go.Proofs.YtlikikpgmmkjbaaGreat
open Tryz
end Go.Proofs.YtlikikpgmmkjbaaGreat
namespace Go.Proofs.YtlikikpgmmkjbaaGreat.Tree
open Tryz
open Go.RowKit Go.Proofs.YtlikikpgmmkjbaaGreat Go.Proofs.YtlikikpgmmkjbaaGreat.fy Go.Proofs.YtlikikpgmmkjbaaGreat.Mark

theorem aFs (a b:cX):bits .xor .u64 (U a) (U b)=U (a ^^^ b):=by
 refine PI (Ua _ _ _) (T' _ _ _) ?_;rw [Yn,vW,vW]
theorem ay4 (l:List UInt8) (n:Nat) (b:UInt8) (m:cX):(l++ [b]).foldl (fun m b=>mix (m ^^^ BitVec.ofNat 64 b.toNat)) m=mix (l.foldl (fun m b=>mix (m ^^^ BitVec.ofNat 64 b.toNat)) m ^^^ BitVec.ofNat 64 b.toNat):=by rw [aTo];rfl
def upto (s:ByteArray) (k:Nat):cX:=(s.data.toList.take k).foldl (fun m b=>mix (m ^^^ BitVec.ofNat 64 b.toNat)) (mix (BitVec.ofNat 64 s.size))
theorem aEg (s:ByteArray) (k:Nat) (h:k<s.size):upto s (k+1)=mix (upto s k ^^^ BitVec.ofNat 64 s[k].toNat):=by
 unfold upto;have av:k<s.data.toList.length:=by simpa using h
 rw [aSk av,ay4 _ k];rfl
theorem aEf (s:ByteArray):upto s s.size=C3 s.data.toList:=by
 unfold upto C3;rw [aSh (by simp)];rfl
theorem acf (n:Nat) (h:n<18446744073709551616):((n:Nat):Int)=U (BitVec.ofNat 64 n):=by
 unfold U;rw [aTx,aS9 h]
theorem HW (s:ByteArray) (hs:s.size≤9223372036854775807) (w:World):Calls prog 83 #[.string s] w fun e w'=>e= .returned (.int .u64 (U (C3 s.data.toList)))∧∃ q,w'=w.drewN q:=by
 have aG:upto s 0=mix (BitVec.ofNat 64 s.size):=rfl;have P8:=acf s.size (by omega);have hm:=Ya _ (BitVec.ofNat 64 s.size) P8;have dF:=aRV (aEf s);rw [← aG] at hm;have wJ:=aRV aG;have hw:IntKind.u64.wrap (s.size:Int)=(s.size:Int):=by rw [aS2];omega
 clear P8 aG;go_enter func83,ntmps83;go_wp2_with fail
 refine (hm _).mono ?_;rintro e w' ⟨rfl,rfl⟩;clear hw;go_wp2_with fail
 go_loop [3,11] (fun m i=>∃ k:Nat,k≤s.size∧i= .int .i64 (k:Int)∧m= .int .u64 (U (upto s k))) (fun _ i=>s.size - (intOf i).toNat)
 case atStart=>exact ⟨0,aSG _,rfl,rfl⟩
 case round =>
  obtain ⟨k,av,rfl,rfl⟩:=hrel;by_cases bC:k<s.size
  ·have Xh:=aEg s k bC;have hx:=aFs (upto s k) (BitVec.ofNat 64 s[k].toNat);rw [← acf s[k].toNat (by have:=s[k].toNat_lt;omega)] at hx;have hm:=Ya _ (upto s k ^^^ BitVec.ofNat 64 s[k].toNat) rfl;rw [← Xh] at hm;have fp:=aRV Xh;clear Xh;have aLm:IntKind.u64.wrap (s[k].toNat:Int)=(s[k].toNat:Int):=by have:=s[k].toNat_lt;rw [aS2];omega
   obtain ⟨m2,Gx⟩:∃ m2,Hid (upto s (k+1)=m2):=⟨_,aRV rfl⟩;rw [Gx.out] at hm;clear fp;generalize upto s k ^^^ BitVec.ofNat 64 s[k].toNat=x at *
   generalize upto s k=m1 at *
   go_wp2_with fail
   refine (hm _).mono ?_;rintro e w' ⟨rfl,rfl⟩;go_wp2_with fail
   go_round
   case rel=>exact ⟨k+1,by omega,by go_num,by rw [Gx.out]⟩
   case measure=>simp [intOf];omega
  ·obtain rfl:k=s.size:=by omega
   rw [dF.out];go_wp2_with fail
   go_ret;exact ⟨Z,0,Z⟩
def aqB (l:List ByteArray):List Value:=l.map Value.string
def lists (l:List ByteArray):List (List UInt8):=l.map fun s=>s.data.toList
def aHT (l:List ByteArray):Prop:=∀ s∈l,s.size≤9223372036854775807
end Go.Proofs.YtlikikpgmmkjbaaGreat.Tree
namespace Go.Proofs.YtlikikpgmmkjbaaGreat
open Tryz
end Go.Proofs.YtlikikpgmmkjbaaGreat
namespace Go.Proofs.YtlikikpgmmkjbaaGreat.Pack
open Tryz
open Go.Proofs.YtlikikpgmmkjbaaGreat.fy
def kc:Nat→Nat→List UInt8
  | 0,n=> [UInt8.ofNat n]
  | k+1,n=>if n<128 then [UInt8.ofNat n] else UInt8.ofNat (n % 128+128)::kc k (n / 128)
def dZ (n:Nat):List UInt8:=kc 9 n
def val:List UInt8→Nat
  | []=>0
  | b::l=>b.toNat % 128+128 * val l

theorem A' {k n:Nat} (h:n<128):kc k n= [UInt8.ofNat n]:=by
  cases k with
  | zero=>rfl
  | succ k=>unfold kc;rw [aR5 h]
theorem A_ {k n:Nat} (h:¬ n<128):kc (k+1) n=UInt8.ofNat (n % 128+128)::kc k (n / 128):=by
  rw [kc];rw [aR0 h]
theorem Yz (k n:Nat):(kc k n).length≤k+1∧1≤(kc k n).length:=by
  induction k generalizing n with
  | zero=>simp [kc]
  | succ k bF =>
    by_cases h:n<128
    · rw [A' h];simp
    · rw [A_ h];have:=bF (n / 128);simp;omega
theorem Ba (n:Nat):(dZ n).length≤10∧1≤(dZ n).length:=Yz 9 n

theorem Is {n k:Nat} (h:n<128 ^ (k+2)):n / 128<128 ^ (k+1):=by
  rw [aUQ] at h;exact Nat.div_lt_of_lt_mul (by rw [aS6];exact h)
theorem aEk (k n:Nat) (h:n<128 ^ (k+1)):val (kc k n)=n:=by
  induction k generalizing n with
  | zero =>
    have κ:n<128:=by simpa using h
    simp only [kc,val,aST];omega
  | succ k bF =>
    by_cases κ:n<128
    · rw [A' κ]
      simp only [val,aST];omega
    · rw [A_ κ]
      simp only [val,aST];rw [bF (n / 128) (Is h)];omega
theorem Fj {n:Nat} (h:n<18446744073709551616):n<128 ^ (9+1):=aTw h (by decide)
theorem aEl (n:Nat) (h:n<18446744073709551616):val (dZ n)=n:=aEk 9 n (Fj h)
theorem aBG (k n i:Nat) (hn:n<128 ^ (k+1)) (h:i+1<(kc k n).length) (ar:i<(kc k n).length):128≤((kc k n)[i]).toNat:=by
  induction k generalizing n i with
  | zero=>simp [kc] at h
  | succ k bF =>
    by_cases κ:n<128
    · simp [A' κ] at h
    · simp only [A_ κ] at h ar ⊢
      cases i with
      | zero=>simp only [aUS,aST];omega
      | succ i =>
        simp only [aUT];exact bF (n / 128) i (Is hn) (by simpa using h) (by simpa using ar)
theorem akq (k n:Nat) (hn:n<128 ^ (k+1)) (i:Nat) (ar:i<(kc k n).length) (aB:i+1=(kc k n).length):((kc k n)[i]).toNat<128:=by
  induction k generalizing n i with
  | zero =>
    have κ:n<128:=by simpa using hn
    simp only [kc,aWj,aST];omega
  | succ k bF =>
    by_cases κ:n<128
    · simp only [A' κ,aWj,aST]
      omega
    · simp only [A_ κ] at aB ar ⊢
      cases i with
      | zero =>
        have aa:=(Yz k (n / 128)).2;rw [aRW] at aB;omega
      | succ i =>
        simp only [aUT];exact bF (n / 128) (Is hn) i (by simpa using ar) (by simpa using aB)
theorem aEm (l:List UInt8) (b:UInt8):val (l++ [b])=val l+128 ^ l.length * (b.toNat % 128):=by
  induction l with
  | nil=>simp [val]
  | cons x l bF =>
    simp only [aTI,val,bF,aRW,aUQ];rw [Nat.mul_add,← Nat.mul_assoc,aS6 128 (128 ^ l.length)];omega
theorem aEj (l:List UInt8):val l<128 ^ l.length:=by
  induction l with
  | nil=>simp [val]
  | cons x l bF =>
    simp only [val,aRW,aUQ];omega
def JB (l:List UInt8) (n:Nat) (rest:List UInt8) (e:Int):Prop :=
  (∃ k,k<10∧k<l.length∧(∀ i (h:i<l.length),i<k→128≤l[i].toNat)∧(∀ h:k<l.length,l[k].toNat<128)∧
    ((dZ (val (l.take (k+1)) % 18446744073709551616)=l.take (k+1)∧n=val (l.take (k+1)) % 18446744073709551616∧rest=l.drop (k+1)∧e=0)∨
     (dZ (val (l.take (k+1)) % 18446744073709551616)≠l.take (k+1)∧n=0∧rest= []∧e=4)))∨
  (l.length<10∧(∀ i (h:i<l.length),128≤l[i].toNat)∧n=0∧rest= []∧e=3)∨
  (10≤l.length∧(∀ i (h:i<l.length),i<10→128≤l[i].toNat)∧n=0∧rest= []∧e=4)
def oQ (x:Int):Nat:=if 0≤x then (2 * x).toNat else (-2 * x - 1).toNat
end Go.Proofs.YtlikikpgmmkjbaaGreat.Pack
namespace Go.Proofs.YtlikikpgmmkjbaaGreat
open Tryz
end Go.Proofs.YtlikikpgmmkjbaaGreat
