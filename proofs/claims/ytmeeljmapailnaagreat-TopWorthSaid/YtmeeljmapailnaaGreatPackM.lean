import Derived.Test.YtmeeljmapailnaaGreatShelf
import Derived.Lib.BitFns
set_option linter.unusedVariables false
set_option linter.unusedSimpArgs false
set_option maxRecDepth 100000
set_option maxHeartbeats 4000000
open Go.RowKit
namespace Go.Proofs.YtmeeljmapailnaaGreat
open Tryz
abbrev aSX:=@UInt8.toNat_ofNat'
abbrev aT3:=@Go.World.cell?_alloc_new
abbrev aUW:=@Nat.pow_succ
abbrev aWs:=@List.getElem_singleton
section
def fa (W:ae) (l:List aL):Int:=if oM W l≠0 then oM W l else if 1000000≤W.now then 6 else 0
def oO (W:ae) (l:List aL):ae:=fX W (dM W l l.length)
noncomputable def oP (W:ae) (l:List aL):ae:=gK (oO W l) (eo W l l.length)
noncomputable def lY (W:ae) (l:List aL):ae:=(oP W l).iK (eG W l l.length)
noncomputable def iC (W:ae) (l:List aL):ae:=if fa W l≠0 then ae.zero else {lY W l with now:=(lY W l).now+1}
def gV (W:ae) (l:List aL):List Int:=if fa W l≠0 then [] else mQ W (dM W l l.length)
noncomputable def qs (W:ae) (l:List aL):List Int:=if fa W l≠0 then [] else pw (oO W l) (eo W l l.length)
noncomputable def rf (W:ae) (l:List aL):List Bool:=if fa W l≠0 then [] else (oP W l).uy (eG W l l.length)
theorem amf {W:ae} {l:List aL} (h:fa W l≠0):iC W l=ae.zero∧gV W l= []∧qs W l= []∧rf W l= []:=by
 unfold iC gV qs rf;simp only [aR8 h,and_self]
theorem NK {W:ae} {l:List aL} (h:fa W l=0):iC W l= {lY W l with now:=(lY W l).now+1}∧gV W l=mQ W (dM W l l.length)∧qs W l=pw (oO W l) (eo W l l.length)∧rf W l=(oP W l).uy (eG W l l.length):=by
 have c6:¬ fa W l≠0:=by simpa using h
 unfold iC gV qs rf;simp only [aR5 c6,and_self]
theorem Ed {W:ae} {l:List aL} (h:fa W l=0):oM W l=0∧W.now<1000000∧W.bm=0∧l.length≤100:=by
 unfold fa at h;split at h
 ·contradiction
 ·rename_i κ
  have κ:oM W l=0:=by simpa using κ
  split at h
  ·exact nomatch h
  ·exact ⟨κ,by omega,(Sr κ).2,aDc κ⟩
theorem asb {W:ae} {l:List cd} (h:W.bm=0) (ay:l.length≤200):W.qQ l=0∧W.iK l=(W.gH l).1:=by
 have e:W.qQ l=0:=by unfold ae.qQ;rw [aR5 (by omega),aR5 (by omega)]
 exact ⟨e,by unfold ae.iK;rw [aR8 e]⟩
theorem UI {W:ae} {l:List c_} (h:W.bm=0) (ay:l.length≤200):mI W l=0:=by unfold mI;rw [aR5 (by omega),aR5 (by omega)]
theorem NJ {W:ae} {l:List aL} (h:fa W l=0):mI W (dM W l l.length)=0∧q7 (oO W l) (eo W l l.length)=0∧(oP W l).qQ (eG W l l.length)=0∧Good (oO W l)∧Good (oP W l)∧Good (lY W l):=by
 obtain ⟨κ,ab,aw,a6⟩:=Ed h;obtain ⟨nH,f_,gR⟩:=alV W l l.length;have aZ:=UI (l:=dM W l l.length) aw (by omega);have g1:Good (oO W l):=(Ji aZ).right;have bh:=(RL (W:=oO W l) (l:=eo W l l.length) g1.bm (by omega)).1;have g2:Good (oP W l):=(M8 bh).1;obtain ⟨cF,jd⟩:=asb (W:=oP W l) (l:=eG W l l.length) g2.bm (by omega);refine ⟨aZ,bh,cF,g1,g2, ?_⟩;unfold lY;rw [jd];exact g2.gH _
def Pc (W:ae) (l:List aL) (w:World) (e:Ending) (w':World):Prop :=
 ∃ a' hk bZ cp c1 cZ c2,e= .returned (.tuple #[.agg (ae.cells a' (iC W l)).toArray, .agg #[.slice hk (gV W l).length bZ, .slice cp (qs W l).length c1, .slice cZ (rf W l).length c2], .int .i64 (fa W l)])∧bo w' w.heap.size a' (iC W l)∧
  bQ.aF 3 8 w' w.heap.size (τ.ah hk) hk bZ (gV W l)∧bQ.aF 3 8 w' w.heap.size (τ.ah cp) cp c1 (qs W l)∧yt.aF 4 1 w' w.heap.size (τ.ah cZ) cZ c2 (rf W l)∧
  (∀ q,(q∈τ.ah hk∨q∈τ.ah cp∨q∈τ.ah cZ)→q∉bo.bS a')∧Ext w w'
theorem aDX (a:ae.b2) (W:ae) (A:Option Addr) (c:Nat) (l:List aL) (w:World) (bG:ae.Has w a W) (ay:aL.rep.aJ 48 w A c l) (κ:oM W l≠0):
  Calls prog 9 #[.agg ((ae.cells a W).toArray), .slice A l.length c] w (Pc W l w):=by
 have dU:(oM W l == 0)=false:=by simpa using κ
 have ez:(oM W l != 0)=true:=by simpa using κ
 refine cl (n:=62) func9 Z Z Z ?_;refine aj<|cA Z Z Z Z λ cC bF a8 ef aa=> ?_;have:=a8.size;have bj:=γ (Ext.bN w) a8;have ei:=aa.lt;refine al Z ov Z Z λ ew cu bl il ag=> ?_;have:=bl.size;have bO:=γ bj bl;have hW:=ag.lt;refine al Z FB Z Z λ hX iw b7 q2 aH=> ?_;have:=b7.size;have cY:=γ bO b7;have oL:=aH.lt;refine va Z<|ai<|aj<|vm Z<| ?_;have aa:=aa.later (γ bl b7);refine J (ao Z (aa.all dc b3))<|ca Vp Z Z ((aDd _ _ l a W _ (ay.keep cY) (bG.keep cY) κ).mono ?_);rintro e n2 ⟨rfl,ea⟩;refine ⟨_,Z, ?_⟩;have:=ea.size;have fC:=γ cY ea;refine vm rfl<|J (ex rfl rfl)<|J (ex rfl rfl)<|J (ex rfl rfl)<|J (ex rfl rfl)<|va rfl<|va rfl<|va rfl<|va rfl<|ai<|aA<|aj<|vm rfl<|J (beq rfl rfl)<|vm (gD rfl dU)<|bs (v:=undef) rfl rfl rfl rfl (λ hc=>nomatch hc) rfl<|bs (v:=undef) rfl rfl rfl rfl (λ hc=>nomatch hc) rfl<|bs (v:=undef) rfl rfl rfl rfl (λ hc=>nomatch hc) rfl<|J (sw rfl rfl)<|ai<|gZ rfl<| ?_;refine bu<|aA<|aj<|vm Z<|J (bne Z Z)<|ai<|fi (gD Z ez)<|aj<|J (v:= .agg #[.int .i64 0, .int .i64 0, .slice none 0 0, .slice none 0 0, .slice none 0 0, .slice none 0 0, .slice none 0 0, .int .i64 0, .int .i64 0]) (cI Z (by kernel_rfl))<|J (v:= .agg #[.slice none 0 0, .slice none 0 0, .slice none 0 0]) (cI Z (by kernel_rfl))<|vm Z<| ?_;have ag:=ag.later (γ b7 ea);refine st (new:= [.int .i64 0, .int .i64 0, .slice none 0 0, .slice none 0 0, .slice none 0 0, .slice none 0 0, .slice none 0 0, .int .i64 0, .int .i64 0]) Z Z ag Z b3 Z Z Z λ sA Gj ag=> ?_;have:=Gj.size;have jo:=Ext.mod fC Gj bt;have aH:=aH.later ea;have aH:=aH.mod Gj aM;refine st (new:= [.slice none 0 0, .slice none 0 0, .slice none 0 0]) Z Z aH Z zq Z Z Z λ tN zO aH=> ?_;have:=zO.size;have ia:=Ext.mod jo zO bt;refine va Z<|ai<|rt<|bT<| ?_;have ag:=ag.mod zO aM;refine bd (.cell Z (ag.all dc b3) (.cell Z (aH.all P5 zq) (.tmp Z .nil)))<| ?_;have e0:fa W l=oM W l:=by unfold fa;rw [aR8 κ]
 obtain ⟨lp,z2,z3,z4⟩:=amf (W:=W) (l:=l) (by rw [e0];first | exact κ | decide);exact ⟨⟨none,none,none,none,none,0,0,0,0,0⟩,none,0,none,0,none,0,by rw [e0,lp,z2,z3,z4];rfl,by rw [lp];exact bo.zero _ _,by rw [z2];exact τ.aF.nil _,by rw [z3];exact τ.aF.nil _,by rw [z4];exact τ.aF.nil _,λ q I=>by simp [τ.ah] at I,ia⟩
theorem aDY (a:ae.b2) (W:ae) (A:Option Addr) (c:Nat) (l:List aL) (w:World) (bG:ae.Has w a W) (ay:aL.rep.aJ 48 w A c l) (κ:oM W l=0) (ab:1000000≤W.now):
  Calls prog 9 #[.agg ((ae.cells a W).toArray), .slice A l.length c] w (Pc W l w):=by
 refine cl (n:=62) func9 Z Z Z ?_;refine aj<|cA Z Z Z Z λ cC bF a8 ef aa=> ?_;have:=a8.size;have bj:=γ (Ext.bN w) a8;have ei:=aa.lt;refine al Z ov Z Z λ ew cu bl il ag=> ?_;have:=bl.size;have bO:=γ bj bl;have hW:=ag.lt;refine al Z FB Z Z λ hX iw b7 q2 aH=> ?_;have:=b7.size;have cY:=γ bO b7;have oL:=aH.lt;refine va Z<|ai<|aj<|vm Z<| ?_;have aa:=aa.later (γ bl b7);refine J (ao Z (aa.all dc b3))<|ca Vp Z Z ((alX _ _ l a W _ (ay.keep cY) (bG.keep cY) κ).mono ?_);rintro e tN ⟨anS,aqI,TF,aqJ,anT,UU,rfl,CS,vz,o0,fe⟩;refine ⟨_,Z, ?_⟩;have:=fe.size;have ia:=γ cY fe;have pB:=λ q I=>(CS.lt q I).2;have MT:=λ q I=>(CS.lt q I).1;have ZT:=λ q I=>(vz.lt q I).2;have MU:=λ q I=>(vz.lt q I).1;have pC:=λ q I=>(o0.lt q I).2;have nP:=λ q I=>(o0.lt q I).1;refine vm Z<|J (ex Z Z)<|J (ex Z Z)<|J (ex Z Z)<|J (ex Z Z)<|va Z<|va Z<|va Z<|va Z<|ai<|aA<|aj<|vm Z<|J (beq Z Z)<|vm Z<|mS Z Z Z<|J (av KZ Z)<|mS Z Z Z<| ?_;have aa:=aa.later fe;refine J (ao Z (aa.one bc Z))<|mS Z Z Z<|J (ks Z Z)<|J (ra Z Z)<|ai<| ?_;have mf:(decide (1000000≤W.now))=true:=by exact aSw ab
 refine fi (by rw [← mf];rfl)<|rg<|va Z<|ai<|aA<|aj<|vm Z<|J (bne Z Z)<|ai<|fi Z<|aj<|J (v:= .agg #[.int .i64 0, .int .i64 0, .slice none 0 0, .slice none 0 0, .slice none 0 0, .slice none 0 0, .slice none 0 0, .int .i64 0, .int .i64 0]) (cI Z (by kernel_rfl))<|J (v:= .agg #[.slice none 0 0, .slice none 0 0, .slice none 0 0]) (cI Z (by kernel_rfl))<|vm Z<| ?_;have ag:=ag.later (γ b7 fe);refine st (new:= [.int .i64 0, .int .i64 0, .slice none 0 0, .slice none 0 0, .slice none 0 0, .slice none 0 0, .slice none 0 0, .int .i64 0, .int .i64 0]) Z Z ag Z b3 Z Z Z λ Cj wB ag=> ?_;have:=wB.size;have qD:=Ext.mod ia wB bt;have aH:=aH.later fe;have aH:=aH.mod wB aM;refine st (new:= [.slice none 0 0, .slice none 0 0, .slice none 0 0]) Z Z aH Z zq Z Z Z λ yD q6 aH=> ?_;have:=q6.size;have j_:=Ext.mod qD q6 bt;refine va Z<|ai<|rt<|bT<| ?_;have ag:=ag.mod q6 aM;refine bd (.cell Z (ag.all dc b3) (.cell Z (aH.all P5 zq) (.tmp Z .nil)))<| ?_;have e0:fa W l=6:=by unfold fa;rw [aR5 (by simpa using κ),aR8 ab]
 obtain ⟨lp,z2,z3,z4⟩:=amf (W:=W) (l:=l) (by rw [e0];first | exact κ | decide);exact ⟨⟨none,none,none,none,none,0,0,0,0,0⟩,none,0,none,0,none,0,by rw [e0,lp,z2,z3,z4];rfl,by rw [lp];exact bo.zero _ _,by rw [z2];exact τ.aF.nil _,by rw [z3];exact τ.aF.nil _,by rw [z4];exact τ.aF.nil _,λ q I=>by simp [τ.ah] at I,j_⟩
theorem aDZ (a:ae.b2) (W:ae) (A:Option Addr) (c:Nat) (l:List aL) (w:World) (bG:ae.Has w a W) (ay:aL.rep.aJ 48 w A c l) (aG:fa W l=0):
  Calls prog 9 #[.agg ((ae.cells a W).toArray), .slice A l.length c] w (Pc W l w):=by
 obtain ⟨κ,ab,aw,a6⟩:=Ed aG;obtain ⟨aZ,bh,cF,g1,g2,g3⟩:=NJ aG;have axo:0≤(lY W l).now∧(lY W l).now≤1000000:=g3.now;refine cl (n:=62) func9 Z Z Z ?_;refine aj<|cA Z Z Z Z λ cC bF a8 ef aa=> ?_;have:=a8.size;have bj:=γ (Ext.bN w) a8;have ei:=aa.lt;refine al Z ov Z Z λ ew cu bl il ag=> ?_;have:=bl.size;have bO:=γ bj bl;have hW:=ag.lt;refine al Z FB Z Z λ hX iw b7 q2 aH=> ?_;have:=b7.size;have cY:=γ bO b7;have oL:=aH.lt;refine va Z<|ai<|aj<|vm Z<| ?_;have aa:=aa.later (γ bl b7);refine J (ao Z (aa.all dc b3))<|ca Vp Z Z ((alX _ _ l a W _ (ay.keep cY) (bG.keep cY) κ).mono ?_);rintro e tN ⟨anS,aqI,TF,aqJ,anT,UU,rfl,CS,vz,o0,fe⟩;refine ⟨_,Z, ?_⟩;have:=fe.size;have ia:=γ cY fe;have pB:=λ q I=>(CS.lt q I).2;have MT:=λ q I=>(CS.lt q I).1;have ZT:=λ q I=>(vz.lt q I).2;have MU:=λ q I=>(vz.lt q I).1;have pC:=λ q I=>(o0.lt q I).2;have nP:=λ q I=>(o0.lt q I).1;refine vm Z<|J (ex Z Z)<|J (ex Z Z)<|J (ex Z Z)<|J (ex Z Z)<|va Z<|va Z<|va Z<|va Z<|ai<|aA<|aj<|vm Z<|J (beq Z Z)<|vm Z<|mS Z Z Z<|J (av KZ Z)<|mS Z Z Z<| ?_;have aa:=aa.later fe;refine J (ao Z (aa.one bc Z))<|mS Z Z Z<|J (ks Z Z)<|J (ra Z Z)<|ai<| ?_;have mf:(decide (1000000≤W.now))=false:=by exact aSF (by omega)
 refine gZ (by rw [← mf];rfl)<|bu<|aA<|aj<|vm Z<|J (bne Z Z)<|ai<|gZ Z<|bu<|aj<|al Z FB Z Z λ Cj aIz ll aMA mD=> ?_;have:=ll.size;have qD:=γ ia ll;have aO5:=mD.lt;refine ai<|aj<| ?_;have aa:=aa.later ll;refine J (ao Z (aa.all dc b3))<|vm Z<| ?_;have CS:=CS.later ll;refine ca aeI Z Z ((al3 (dM W l (l).length) _ _ a W _ (bG.keep qD) CS.has).mono ?_);rintro e Jv ⟨a40,sQ,vH,rfl,EZ,ju,WX,tR⟩;refine ⟨_,Z, ?_⟩;have:=tR.size;have vp:=γ qD tR;have u_:=λ q I=>(EZ.lt q I).2;have tq:=λ q I=>(EZ.lt q I).1;have Jo:=λ q I=>(ju.lt q I).2;have BS:=λ q I=>(ju.lt q I).1;have aJm:∀ q∈τ.ah sQ,q∈bo.bS a40→False:=WX;have aJt:∀ q∈bo.bS a40,q∈τ.ah sQ→False:=λ q κ ab=>WX q ab κ;refine vm Z<|J (ex Z Z)<|J (ex Z Z)<|J (ex Z Z)<| ?_;have aa:=aa.later tR;refine st Z Z aa Z b3 Z Z Z λ Jw zP aa=> ?_;have:=zP.size;have oT:=Ext.mod vp zP bt;refine J (av aeJ Z)<| ?_;have mD:=mD.later tR;have mD:=mD.mod zP aM;refine st (new:= [.slice sQ ((mQ W (dM W l (l).length)).length) vH, .slice none 0 0, .slice none 0 0]) Z Z mD Z xH Z Z Z λ GL gU mD=> ?_;have:=gU.size;have oU:=Ext.mod oT gU bt;refine ai<|aj<| ?_;have aa:=aa.mod gU aM;refine J (ao Z (aa.all dc b3))<|vm Z<| ?_;have vz:=vz.later (γ ll tR);have vz:=vz.mod zP (bB MU);have vz:=vz.mod gU (bI ZT);have EZ:=EZ.mod zP (bB tq);have EZ:=EZ.mod gU (bB tq);refine ca as0 Z Z ((aAk a40 (fX W (dM W l (l).length)) _ _ (eo W l (l).length) _ EZ.has vz.has).mono ?_);rintro e JB ⟨xt,Hd,PC,rfl,od,lz,Il,qC⟩;refine ⟨_,Z, ?_⟩;have:=qC.size;have qF:=γ oU qC;have Ce:=λ q I=>(od.lt q I).2;have II:=λ q I=>(od.lt q I).1;have wM:=λ q I=>(lz.lt q I).2;have BT:=λ q I=>(lz.lt q I).1;have aJn:∀ q∈τ.ah Hd,q∈bo.bS xt→False:=Il;have aJx:∀ q∈bo.bS xt,q∈τ.ah Hd→False:=λ q κ ab=>Il q ab κ;refine vm Z<|J (ex Z Z)<|J (ex Z Z)<|J (ex Z Z)<| ?_;have aa:=aa.later qC;refine st Z Z aa Z b3 Z Z Z λ S1 sq aa=> ?_;have:=sq.size;have sN:=Ext.mod qF sq bt;refine J (av as2 Z)<| ?_;have mD:=mD.later qC;have mD:=mD.mod sq aM;refine st (new:= [.slice sQ ((mQ W (dM W l (l).length)).length) vH, .slice Hd ((pw (fX W (dM W l (l).length)) (eo W l (l).length)).length) PC, .slice none 0 0]) Z Z mD Z xH Z Z Z λ amV B1 mD=> ?_;have:=B1.size;have Ok:=Ext.mod sN B1 bt;refine ai<|aj<| ?_;have aa:=aa.mod B1 aM;refine J (ao Z (aa.all dc b3))<|vm Z<| ?_;have o0:=o0.later (γ ll tR);have o0:=o0.mod zP (bB nP);have o0:=o0.mod gU (bI pC);have o0:=o0.later qC;have o0:=o0.mod sq (bB nP);have o0:=o0.mod B1 (bI pC);have od:=od.mod sq (bB II);have od:=od.mod B1 (bB II);refine ca as3 Z Z ((asi (eG W l (l).length) _ _ _ xt (gK (fX W (dM W l (l).length)) (eo W l (l).length)) od.has o0.has).mono ?_);rintro e S5 ⟨lM,JW,UX,rfl,mF,og,agD,dC⟩;refine ⟨_,Z, ?_⟩;have:=dC.size;have tW:=γ Ok dC;have NQ:=λ q I=>(mF.lt q I).2;have Gd:=λ q I=>(mF.lt q I).1;have aQD:=λ q I=>(og.lt q I).2;have MX:=λ q I=>(og.lt q I).1;have ar3:∀ q∈τ.ah JW,q∈bo.bS lM→False:=agD;have aJJ:∀ q∈bo.bS lM,q∈τ.ah JW→False:=λ q κ ab=>agD q ab κ;refine vm Z<|J (ex Z Z)<|J (ex Z Z)<|J (ex Z Z)<| ?_;have aa:=aa.later dC;refine st Z Z aa Z b3 Z Z Z λ Es hb aa=> ?_;have:=hb.size;have qH:=Ext.mod tW hb bt;refine J (av as4 Z)<| ?_;have mD:=mD.later dC;have mD:=mD.mod hb aM;refine st (new:= [.slice sQ ((mQ W (dM W l (l).length)).length) vH, .slice Hd ((pw (fX W (dM W l (l).length)) (eo W l (l).length)).length) PC, .slice JW (((gK (fX W (dM W l (l).length)) (eo W l (l).length)).uy (eG W l (l).length)).length) UX]) Z Z mD Z as5 Z Z Z λ amY uR mD=> ?_;have:=uR.size;have Om:=Ext.mod qH uR bt;refine ai<|aj<|J (av KZ Z)<| ?_;have aa:=aa.mod uR aM;refine J (ao Z (aa.one bc Z))<|J (bad Z Z (bD ((by have I:_∧_:=axo;unfold lY oP oO at I;omega))))<|J (av KZ Z)<|st (new:= [.int .i64 (((gK (fX W (dM W l (l).length)) (eo W l (l).length)).iK (eG W l (l).length)).field.wide), .int .i64 (((gK (fX W (dM W l (l).length)) (eo W l (l).length)).iK (eG W l (l).length)).field.high), .slice lM.P (((gK (fX W (dM W l (l).length)) (eo W l (l).length)).iK (eG W l (l).length)).field.aW.length) lM.p, .slice lM.B (((gK (fX W (dM W l (l).length)) (eo W l (l).length)).iK (eG W l (l).length)).aV.length) lM.b, .slice lM.S (((gK (fX W (dM W l (l).length)) (eo W l (l).length)).iK (eG W l (l).length)).ba.length) lM.s, .slice lM.M (((gK (fX W (dM W l (l).length)) (eo W l (l).length)).iK (eG W l (l).length)).bk.length) lM.m, .slice lM.T (((gK (fX W (dM W l (l).length)) (eo W l (l).length)).iK (eG W l (l).length)).ak.length) lM.t, .int .i64 (((gK (fX W (dM W l (l).length)) (eo W l (l).length)).iK (eG W l (l).length)).next), .int .i64 ((((gK (fX W (dM W l (l).length)) (eo W l (l).length)).iK (eG W l (l).length)).now)+1)]) Z Z aa Z dx Z Z Z λ Z' tB aa=> ?_;have:=tB.size;have G8:=Ext.mod Om tB bt;refine ai<|aA<| ?_;refine Se [cu] [(0,0),(1,0),(2,2),(3,3)] [0,1,2,3,4] (by kernel_rfl) (by kernel_rfl) ?_;refine zx Z Z (λ _ x=>ao Z ((aa.mod x aM).all dc b3)) Z<| ?_;have mD:=mD.mod tB aM;refine zx Z Z (λ _ x=>ao Z ((mD.mod x aM).all P5 zq)) Z<| ?_;have ag:=ag.later (γ b7 (γ fe (γ ll tR)));have ag:=ag.mod zP aM;have ag:=ag.mod gU aM;have ag:=ag.later qC;have ag:=ag.mod sq aM;have ag:=ag.mod B1 aM;have ag:=ag.later dC;have ag:=ag.mod hb aM;have ag:=ag.mod uR aM;have ag:=ag.mod tB aM;refine FI Z Z Z λ S_ gz Q hK=>st (new:= [.int .i64 (((gK (fX W (dM W l (l).length)) (eo W l (l).length)).iK (eG W l (l).length)).field.wide), .int .i64 (((gK (fX W (dM W l (l).length)) (eo W l (l).length)).iK (eG W l (l).length)).field.high), .slice lM.P (((gK (fX W (dM W l (l).length)) (eo W l (l).length)).iK (eG W l (l).length)).field.aW.length) lM.p, .slice lM.B (((gK (fX W (dM W l (l).length)) (eo W l (l).length)).iK (eG W l (l).length)).aV.length) lM.b, .slice lM.S (((gK (fX W (dM W l (l).length)) (eo W l (l).length)).iK (eG W l (l).length)).ba.length) lM.s, .slice lM.M (((gK (fX W (dM W l (l).length)) (eo W l (l).length)).iK (eG W l (l).length)).bk.length) lM.m, .slice lM.T (((gK (fX W (dM W l (l).length)) (eo W l (l).length)).iK (eG W l (l).length)).ak.length) lM.t, .int .i64 (((gK (fX W (dM W l (l).length)) (eo W l (l).length)).iK (eG W l (l).length)).next), .int .i64 ((((gK (fX W (dM W l (l).length)) (eo W l (l).length)).iK (eG W l (l).length)).now)+1)]) Z Z (ag.later gz) Z b3 Z Z Z λ NZ k_ ag=>hK _ _ ⟨(Mod.bE gz).trans k_, ?_⟩;have:=gz.size;have CB:=γ G8 gz;have:=k_.size;have wY:=Ext.mod CB k_ bt;have aH:=aH.later (γ fe (γ ll tR));have aH:=aH.mod zP aM;have aH:=aH.mod gU aM;have aH:=aH.later qC;have aH:=aH.mod sq aM;have aH:=aH.mod B1 aM;have aH:=aH.later dC;have aH:=aH.mod hb aM;have aH:=aH.mod uR aM;have aH:=aH.mod tB aM;have aH:=aH.later gz;have aH:=aH.mod k_ aM;refine VN Z Z Z λ N0 kB Q hK=>st (new:= [.slice sQ ((mQ W (dM W l (l).length)).length) vH, .slice Hd ((pw (fX W (dM W l (l).length)) (eo W l (l).length)).length) PC, .slice JW (((gK (fX W (dM W l (l).length)) (eo W l (l).length)).uy (eG W l (l).length)).length) UX]) Z Z (aH.later kB) Z zq Z Z Z λ Js mj aH=>hK _ _ ?_;have:=kB.size;have ru:=γ wY kB;have:=mj.size;have N8:=Ext.mod ru mj bt;refine jX Z Z (λ _=>fF Z) Z<|Qn λ Z1 Ew=> ?_;have:=Ew.size;have EG:=γ N8 Ew;refine aU<|rt<| ?_;have ag:=ag.later kB;have ag:=ag.mod mj aM;have ag:=ag.later Ew;have aH:=aH.later Ew;refine bd (.cell Z (ag.all dc b3) (.cell Z (aH.all P5 zq) (.tmp Z .nil)))<| ?_;have mF:=mF.mod hb (bB Gd);have mF:=mF.mod uR (bB Gd);have mF:=mF.mod tB (bB Gd);have mF:=mF.later gz;have mF:=mF.mod k_ (bB Gd);have mF:=mF.later kB;have mF:=mF.mod mj (bB Gd);have mF:=mF.later Ew;have ju:=ju.mod zP (bB BS);have ju:=ju.mod gU (bB BS);have ju:=ju.later qC;have ju:=ju.mod sq (bB BS);have ju:=ju.mod B1 (bB BS);have ju:=ju.later dC;have ju:=ju.mod hb (bB BS);have ju:=ju.mod uR (bB BS);have ju:=ju.mod tB (bB BS);have ju:=ju.later gz;have ju:=ju.mod k_ (bB BS);have ju:=ju.later kB;have ju:=ju.mod mj (bB BS);have ju:=ju.later Ew;have lz:=lz.mod sq (bB BT);have lz:=lz.mod B1 (bB BT);have lz:=lz.later dC;have lz:=lz.mod hb (bB BT);have lz:=lz.mod uR (bB BT);have lz:=lz.mod tB (bB BT);have lz:=lz.later gz;have lz:=lz.mod k_ (bB BT);have lz:=lz.later kB;have lz:=lz.mod mj (bB BT);have lz:=lz.later Ew;have og:=og.mod hb (bB MX);have og:=og.mod uR (bB MX);have og:=og.mod tB (bB MX);have og:=og.later gz;have og:=og.mod k_ (bB MX);have og:=og.later kB;have og:=og.mod mj (bB MX);have og:=og.later Ew;obtain ⟨lp,z2,z3,z4⟩:=NK aG;have hR:bo Z1 w.heap.size lM (iC W l):=by rw [lp];exact (mF.down (by omega)).alF Z Z Z Z Z ⟨mF.nums.1,mF.nums.2.1,mF.nums.2.2.1,bM.2 (by show _≤(lY W l).now+1∧(lY W l).now+1≤_;omega)⟩
 exact ⟨lM,sQ,vH,Hd,PC,JW,UX,by rw [aG,lp,z2,z3,z4];rfl,hR,by rw [z2];exact ju.down (by omega),by rw [z3];exact lz.down (by omega),by rw [z4];exact og.down (by omega),λ q I hf=>I.elim (λ I=>by exfalso;(have:=Gd q hf;(have:=Jo q I;omega))) (λ I=>I.elim (λ I=>by exfalso;(have:=Gd q hf;(have:=wM q I;omega))) (λ I=>ar3 q I hf)),EG⟩
theorem Jn (a:ae.b2) (W:ae) (A:Option Addr) (c:Nat) (l:List aL) (w:World) (bG:ae.Has w a W) (ay:aL.rep.aJ 48 w A c l):Calls prog 9 #[.agg (ae.cells a W).toArray, .slice A l.length c] w (Pc W l w):=by
 by_cases κ:oM W l=0
 ·by_cases ab:1000000≤W.now
  ·exact aDY a W A c l w bG ay κ ab
  ·exact aDZ a W A c l w bG ay (by unfold fa;rw [aR5 (by simpa using κ),aR5 ab])
 ·exact aDX a W A c l w bG ay κ
end
section
theorem Sx {l:List Int} {k:Nat} {x:Int} (h:k<l.length):(l.set k x).sum=l.sum+x - l.getD k 0:=by
 induction l generalizing k with
 | nil=>simp at h
 | cons y r bx =>
  cases k with
  | zero=>simp;omega
  | succ k=>simp only [aTD,aUz,List.getD_cons_succ];rw [bx (by simpa using h)];omega
theorem ani {l:List aY} {k:Nat} {x t:aY} (h:l[k]? =some t):((l.set k x).map wt).sum=(l.map wt).sum+wt x - wt t:=by
 rw [aS6];have ar:=(aRW.1 h).1;have e:(l.map wt).getD k 0=wt t:=by rw [aRU,aSd,h];rfl
 rw [Sx (by simpa using ar),e]
theorem aDL {W V:ae} {d:cd} (h:Good W) (hd:W.jc d=some V):V.total=W.total:=by
 unfold ae.jc at hd;split at hd
 ·obtain ⟨k,t,_,aC,_,ar,ay,_,dp,BE,rfl⟩:=Yz hd;obtain ⟨i1,i2,_⟩:=aE.idx h.field dp;have bz:W.place d.spot<W.bk.length:=by rw [h.tD];unfold ae.place;omega
  unfold ae.total;simp only [Sx bz,ani aC,wt,ae.om];omega
 ·split at hd
  ·obtain ⟨k,t,n,_,aC,_,ay,_,hn,L3,rfl⟩:=Vi hd;have κ:=h.ak k t aC;have bz:t.owner.toNat<W.ba.length:=by rw [h.sl];have:=κ.owner;omega
   unfold ae.total;simp only [Sx bz,ani aC,wt,ae.om];omega
  ·split at hd
   ·obtain ⟨c,mM,XO,mN,ar,hp,BF,th,rfl⟩:=Xf hd;have bz:d.aR.toNat<W.ba.length:=by rw [h.sl];omega
    unfold ae.total;simp only [Sx bz,aSm,aU3,aSB,aTz,aUz,List.sum_nil,wt];omega
   ·cases hd
theorem aDM {W:ae} (h:Good W):∀ l:List cd,(W.gH l).1.total=W.total:=by
 intro l;induction l generalizing W with
 | nil=>rfl
 | cons d l bx =>
  simp only [ae.gH];cases hd:W.jc d with
  | none=>exact bx h
  | some V=>exact (bx (h.jc hd)).trans (aDL h hd)
structure Kept (W V:ae):Prop where
 field:V.field=W.field
 aV:V.aV=W.aV
 now:V.now=W.now
 next:V.next=W.next+((V.ak.length:Int) - W.ak.length)
 len:W.ak.length≤V.ak.length
 old:∀ (i:Nat) (t:aY),W.ak[i]? =some t→∃ u:aY,V.ak[i]? =some u∧ {u with load:=t.load}=t
 new:∀ (i:Nat) (u:aY),W.ak.length≤i→V.ak[i]? =some u→W.next≤u.id
theorem Kept.bN (W:ae):Kept W W:=⟨rfl,rfl,rfl,by omega,aR7 _,λ i t h=>⟨t,h,rfl⟩,λ i u h hu=>by
 rw [aTl (by omega)] at hu;cases hu⟩
theorem Kept.uU {U V W:ae} (h:Kept U V) (k:Kept V W):Kept U W where
 field:=k.field.trans h.field
 aV:=k.aV.trans h.aV
 now:=k.now.trans h.now
 next:=by rw [k.next,h.next];omega
 len:=aSs h.len k.len
 old i t aC:=by
  obtain ⟨u,hu,e⟩:=h.old i t aC;obtain ⟨x,hx,bh⟩:=k.old i u hu;refine ⟨x,hx, ?_⟩;rw [← e,← bh]
 new i u aq hu:=by
  by_cases κ:i<V.ak.length
  ·obtain ⟨t,aC⟩:=iM κ;obtain ⟨x,hx,e⟩:=k.old i t aC;rw [hu] at hx;obtain rfl:=aRV hx;have:=h.new i t aq aC;have cF:t.id=u.id:=by rw [← e]
   omega
  ·have ab:=k.new i u (by omega) hu;have:=h.next;have:=h.len;omega
theorem aje {W V:ae} {k:Nat} {t:aY} {n:Int} (aC:W.ak[k]? =some t) (hf:V.field=W.field) (Φ:V.aV=W.aV) (hn:V.now=W.now) (hx:V.next=W.next) (lA:V.ak=W.ak.set k (ae.om t n)):Kept W V where
 field:=hf
 aV:=Φ
 now:=hn
 next:=by rw [lA,aR4,hx];omega
 len:=by rw [lA,aR4];exact aR7 _
 old i x aq:=by
  rw [lA];by_cases ar:k=i
  ·subst ar;rw [aC] at aq;obtain rfl:=aRV aq;exact ⟨_,aSl (aRW.1 aC).1,Z⟩
  ·exact ⟨x,by rw [aSp ar];exact aq,rfl⟩
 new i u aq hu:=by
  rw [lA,aTl (by rw [aR4];exact aq)] at hu;cases hu
theorem ayR {W V:ae} {d:cd} (h:Good W) (hd:W.jc d=some V):Kept W V:=by
 unfold ae.jc at hd;split at hd
 ·obtain ⟨k,t,_,aC,_,ar,ay,_,dp,BE,rfl⟩:=Yz hd;exact aje aC Z Z Z Z Z
 ·split at hd
  ·obtain ⟨k,t,n,_,aC,_,ay,_,hn,L3,rfl⟩:=Vi hd;exact aje aC Z Z Z Z Z
  ·split at hd
   ·obtain ⟨c,mM,XO,mN,ar,hp,BF,th,rfl⟩:=Xf hd;refine ⟨Z,Z,Z,by simp;omega,by simp,λ i t aC=>⟨t, ?_,rfl⟩,λ i u aq hu=> ?_⟩
    ·simp only;rw [aSg (aRW.1 aC).1];exact aC
    ·simp only at hu;rw [aSi aq] at hu;have aG:i - W.ak.length=0:=by
      have:=(aRW.1 hu).1;simp at this;omega
     rw [aG] at hu;have e:u=⟨W.next,d.aR,d.what,c,ae.jB d.what,0⟩:=by simpa using hu.symm
     rw [e];exact aTk _
   ·cases hd
theorem ajd {W:ae} (h:Good W):∀ l:List cd,Kept W (W.gH l).1:=by
 intro l;induction l generalizing W with
 | nil=>exact Kept.bN W
 | cons d l bx =>
  simp only [ae.gH];cases hd:W.jc d with
  | none=>exact bx h
  | some V=>exact (ayR h hd).uU (bx (h.jc hd))
theorem Kept.getD {W V:ae} (h:Kept W V) {i:Nat} (aq:i<W.ak.length): {V.ak.getD i default with load:=(W.ak.getD i default).load}=W.ak.getD i default:=by
 obtain ⟨t,aC⟩:=iM aq;obtain ⟨u,hu,e⟩:=h.old i t aC;rw [aRU,aRU,aC,hu];exact e
theorem aes {W:ae} {l:List cd} (h:W.qQ l=0):Good W∧l.length≤200∧W.iK l=(W.gH l).1∧W.uy l=(W.gH l).2:=by
 have hc:W.bm=0:=by
  cases hd:decide (W.bm=0) with
  | true=>simpa using hd
  | false=>have:=(aeq (W:=W) (l:=l) (by simpa using hd)).2.2;rw [h] at this;exact this.symm
 have ay:l.length≤200:=by
  cases hd:decide (l.length≤200) with
  | true=>simpa using hd
  | false=>have:=(aer (W:=W) (l:=l) hc (by simpa using hd)).2.2;rw [h] at this;cases this
 exact ⟨Good.q_ hc,ay,Vf hc ay,Vg hc ay⟩
def akI:List cd→List Bool→List cd
 | d::l,b::cX=>if b then d::akI l cX else akI l cX
 | _,_=> []
end
section
theorem al4 {W:ae} (h:W.bm=0):fX W []=W∧mQ W []= []:=by
 have aZ:=UI (l:= []) h (by decide);have hS:=Ji aZ;have fV:fk W []=List.replicate W.ak.length 0:=by unfold fk;rw [aZ];rfl
 have hu:uH W []=W.ak:=by
  apply aTN;intro i;cases aC:W.ak[i]? with
  | none =>
   have:=List.getElem?_eq_none_iff.1 aC;rw [aTl (by rw [IC];exact this)]
  | some t =>
   rw [IB aC,fV];have:(List.replicate W.ak.length (0:Int)).getD i 0=0:=by
    rw [aRU,aS3];split<;>rfl
   rw [this,Int.sub_zero]
 have hf:∀ t∈W.ak,0<t.cD:=λ t aC=>by have:=(hS.jY.each aC).2.2.cD;omega
 constructor
 ·rw [hS.bG,hu,List.filter_eq_self.2 λ t aC=>aSw (hf t aC)]
 ·rw [hS.br,hu,List.filter_eq_nil_iff.2 λ t aC=>by simp [hf t aC]];rfl
theorem al0 {f:aE} {T:List aY}:∀ k,kj f [] T k=(T, [])
 | 0=>rfl
 | k+1=>GB (al0 k) (al2 (by show gx _ ([]:List dm)<0;unfold gx;simp))
theorem azY {W:ae} (h:W.bm=0):gK W []=W∧pw W []= []:=by
 obtain ⟨aZ,bh,cF⟩:=RL (W:=W) (l:= []) h (by decide);rw [bh,cF];unfold ae.mv;rw [al0];exact ⟨Z,Z⟩
theorem aD0 {W:ae} {l:List aL} (h:fa W l=0):(lY W l).now=W.now:=by
 obtain ⟨aZ,bh,cF,g1,g2,g3⟩:=NJ h;have κ:(oO W l).now=W.now:=by unfold oO;rw [(Ji aZ).bG]
 have ab:(oP W l).now=(oO W l).now:=by unfold oP;rw [(M8 bh).2.2.2.1]
 have aw:(lY W l).now=(oP W l).now:=by unfold lY;rw [(aes cF).2.2.1];exact (ajd g2 _).now
 rw [aw,ab,κ]
theorem aD1 {W:ae} {l:List aL} (h:fa W l=0):(iC W l).bm=0∧(iC W l).now=W.now+1∧Ea (gV W l)=true∧Ea (qs W l)=true:=by
 obtain ⟨κ,ab,aw,a6⟩:=Ed h;obtain ⟨aZ,bh,cF,g1,g2,g3⟩:=NJ h;obtain ⟨lp,z2,z3,z4⟩:=NK h;have hn:=aD0 h;have L3:=(Good.q_ aw).now;rw [lp,z2,z3];refine ⟨Good.bm {g3 with now:=⟨?_, ?_⟩}, ?_,(Ji aZ).sorted,(M8 bh).2.2.1⟩
 ·show 0≤(lY W l).now+1;omega
 ·show (lY W l).now+1≤1000000;omega
 ·show (lY W l).now+1=_;omega
def n1:List aL:= [⟨0,3,1,⟨2,0⟩,0⟩]
def ZH:ae:=⟨⟨3,1, [0,0,3]⟩, [⟨0,0⟩], [20], [0,0,8], [⟨1,0,1,⟨1,0⟩,10,1⟩],2,1⟩
theorem ZL:fa lf n1=0∧iC lf n1=ZH∧gV lf n1= []∧qs lf n1= []∧rf lf n1= [true]:=by
 have hc:lf.bm=0:=by decide +kernel
 have aeA:dM lf n1 n1.length= []:=by decide +kernel
 have ae8:eo lf n1 n1.length= []:=by decide +kernel
 have aeB:eG lf n1 n1.length= [⟨1,1,⟨2,0⟩,0⟩]:=by decide +kernel
 have aZ:fa lf n1=0:=by decide +kernel
 obtain ⟨lp,z2,z3,z4⟩:=NK aZ;obtain ⟨s1,s2⟩:=al4 hc;have t1:oO lf n1=lf:=by unfold oO;rw [aeA];exact s1
 obtain ⟨tu,IJ⟩:=azY hc;have t2:oP lf n1=lf:=by unfold oP;rw [t1,ae8];exact tu
 have t3:lY lf n1=lf.iK [⟨1,1,⟨2,0⟩,0⟩]:=by unfold lY;rw [t2,aeB]
 have hd:lf.iK [⟨1,1,⟨2,0⟩,0⟩]= {ZH with now:=0}:=by decide +kernel
 refine ⟨aZ, ?_, ?_, ?_, ?_⟩
 ·rw [lp,t3,hd];rfl
 ·rw [z2,aeA];exact s2
 ·rw [z3,t1,ae8];exact IJ
 ·rw [z4,t2,aeB];decide +kernel
end
section
structure ho where
 a:Option Addr
 n:Nat
 c:Nat
instance:Inhabited ho:=⟨⟨none,0,0⟩⟩
def oN:τ ho:=τ.flat 1 (λ v=> [.slice v.a v.n v.c]) (λ _=>True) (λ _ u=>∃ a n c,u= .slice a n c) (λ _=>rfl) (by intro a u hu;simp at hu;subst hu;rfl) (by
 intro a j u hu;cases j with
 | zero=>simp at hu;exact ⟨_,_,_,hu.symm⟩
 | succ j=>simp at hu)
theorem QR {w:World} {cs:List Value} {a:ho} (h:oN.has w cs a):cs= [.slice a.a a.n a.c]:=aTW (show cs= [.slice a.a a.n a.c]∧True from h)
theorem Y':∀ (j:Nat) u,(Value.slice none 0 0).cells[j]? =some u→oN.raw j u:=by
 intro j u hu;have hu:(#[(.slice none 0 0:Value)]:Array Value)[j]? =some u:=hu
 match j,hu with
 | 0,hu=>exact ⟨_,_,_,(aRV hu).symm⟩
 | j+1,hu=>simp at hu
end
end Go.Proofs.YtmeeljmapailnaaGreat
namespace Go.Proofs.YtmeeljmapailnaaGreat.Mark
open Tryz
open Go.Proofs.YtmeeljmapailnaaGreat.fu

abbrev cV:=BitVec 64
abbrev W:=BitVec 64
def xs (k:Nat) (x:cV):cV:=x ^^^ x >>> k
def c1:cV:=13787848793156543929#64
def c2:cV:=10723151780598845931#64
def Wb:cV:=11400714819323198485#64
def mix (n:cV):cV:=xs 31 (xs 27 (xs 30 (n+Wb) * c1) * c2)
def down (k:Nat) (x:cV):cV:=xs (2 * k) (xs k x)
def IZ (x y:cV):cV:=y * (2#64 - x * y)
def other (x:cV):cV:=IZ x (IZ x (IZ x (IZ x (IZ x (IZ x x)))))
def back (n:cV):cV:=down 30 (down 27 (down 31 n * other c2) * other c1) - Wb
section
variable (f:cV→cV)
def Sz (m n:cV):cV:=m ^^^ f n
def zd (l:List cV) (m:cV):cV:=l.foldl (Sz f) m
def Gs (l:List cV):cV:=zd f l 0#64
theorem apK (l:List cV) (x:cV) (m:cV):zd f (l++ [x]) m=Sz f (zd f l m) x:=by unfold zd;rw [aTt];rfl
end
end Go.Proofs.YtmeeljmapailnaaGreat.Mark
namespace Go.Proofs.YtmeeljmapailnaaGreat
open Tryz
end Go.Proofs.YtmeeljmapailnaaGreat
namespace Go.Proofs.YtmeeljmapailnaaGreat.Mark
open Tryz
open Go.RowKit Go.Proofs.YtmeeljmapailnaaGreat.fu

theorem Nr {a b:Int} (h:a=b):Ending.returned (.int .u64 a)= .returned (.int .u64 b):=by rw [h]

theorem aah (x:Int):IntKind.u64.wrap x=U (BitVec.ofInt 64 x):=by
 refine Qh ?_ ?_ (aAS x)
 ·rw [aTb];omega
 ·rw [aTb];omega
theorem apI (a:cV):IntKind.u64.wrap (U a+11400714819323198485)=U (a+Wb):=by
 rw [aah,aAK,wG];rfl
theorem aAm (a:cV):IntKind.u64.wrap (U a * 13787848793156543929)=U (a * c1):=by
 rw [aah,akp,wG];rfl
theorem aAn (a:cV):IntKind.u64.wrap (U a * 10723151780598845931)=U (a * c2):=by
 rw [aah,akp,wG];rfl
theorem aak (k:Nat) (a:cV):bits BinOp.xor IntKind.u64 (U a) (U a / 2 ^ k)=U (xs k a):=by
 refine Qh (UH _ _ _) (UG _ _ _) ?_;rw [YM,akr (n:=64) (U a) k (Uo a) (by have:=apB a;omega),wG];rfl
theorem aFF (a:cV):bits BinOp.xor IntKind.u64 (U a) (U a / 1073741824)=U (xs 30 a):=aak 30 a
theorem aFE (a:cV):bits BinOp.xor IntKind.u64 (U a) (U a / 134217728)=U (xs 27 a):=aak 27 a
theorem aFG (a:cV):bits BinOp.xor IntKind.u64 (U a) (U a / 2147483648)=U (xs 31 a):=aak 31 a
theorem YA (x:Int) (n:cV) (hx:x=U n) (w:World):
  Calls prog 157 #[.int .u64 x] w fun e w'=>e= .returned (.int .u64 (U (mix n)))∧w=w':=by
 subst hx;go_enter func157,ntmps157;go_wp2
 go_ret;refine ⟨Nr ?_,Z⟩;rw [apI,aFF,aAm,aFE,aAn,aFG];rfl

end Go.Proofs.YtmeeljmapailnaaGreat.Mark
namespace Go.Proofs.YtmeeljmapailnaaGreat
open Tryz
end Go.Proofs.YtmeeljmapailnaaGreat
namespace Go.Proofs.YtmeeljmapailnaaGreat.Mark
open Tryz
open Go.RowKit Go.Proofs.YtmeeljmapailnaaGreat.fu


theorem Jn (x y:Int) (m n:cV) (hx:x=U m) (aI:y=U n) (w:World):
  Calls prog 158 #[.int .u64 x, .int .u64 y] w fun e w'=>e= .returned (.int .u64 (U (Sz mix m n)))∧w=w':=by
 subst hx aI;go_enter func158,ntmps158;go_wp2_with (go_at_call 157;refine (YA _ n rfl _).mono ?_;rintro e w' ⟨rfl,rfl⟩)
 go_ret;exact ⟨Nr (by refine Qh (UH _ _ _) (UG _ _ _) ?_;rw [YM,wG,wG];rfl),Z⟩
def Fi (w:World) (a:Option Addr) (n:Nat) (zs:List cV):Prop :=
 n=zs.length∧n≤9223372036854775807∧(zs= []∨∃ b off,a=some ⟨b,off,none⟩∧∀ i (h:i<zs.length),w.cell? ⟨b,off+i,none⟩=some (.int .u64 (U zs[i])))

def Fk (rv:List (List cV)) (m:cV):cV:=rv.foldl (fun m l=>zd mix l m) m
theorem apN (rv:List (List cV)) (l:List cV) (m:cV):Fk (rv++ [l]) m=zd mix l (Fk rv m):=by unfold Fk;rw [aTt];rfl
theorem al8 {α:Type} (l:List α) (k:Nat) (h:k<l.length):l.take (k+1)=l.take k++ [l[k]]:=aSn h

theorem apL (b c:Nat) (vs:List (Option Addr×Nat×Nat)) (rv:List (List cV)) (w:World) (hn:vs.length=rv.length) (hc:c≤100) (hcv:vs.length≤100)
  (j1:∀ i (h:i<vs.length),w.cell? ⟨b,i,none⟩=some (.slice vs[i].1 vs[i].2.1 vs[i].2.2)) (tj:∀ i (h:i<vs.length) (c6:i<rv.length),Fi w vs[i].1 vs[i].2.1 rv[i]):
  Calls prog 125 #[.slice (some ⟨b,0,none⟩) vs.length c] w fun e w'=>e= .returned (.int .u64 (U (Fk rv 0#64)))∧w=w':=by
 obtain ⟨N,ff⟩:∃ N,Hid (N=vs.length):=⟨_,aRY rfl⟩;have AM:=aRY j1;have fv:=aRY tj;have qL:=aRY hn;rw [← ff.out] at hcv ⊢;clear j1 tj hn;go_enter func125,ntmps125;go_wp2
 go_loop [3,10] (fun v i=>∃ k:Nat,k≤N∧i= .int .i64 k∧v= .int .u64 (U (Fk (rv.take k) 0#64))) (fun _ i=>N - (intOf i).toNat)
 case atStart=>exact ⟨0,aSM _,rfl,rfl⟩
 case round =>
  obtain ⟨k,ar,rfl,rfl⟩:=hrel;by_cases bz:k<N
  ·have agT:k<vs.length:=by have:=ff.out;omega
   have agU:k<rv.length:=by have:=qL.out;omega
   have κ:=AM.out k agT;have ab:=fv.out k agT agU;obtain ⟨l,abH⟩:∃ l,Hid (rv[k]=l):=⟨_,aRY rfl⟩;rw [abH.out] at ab;generalize vs[k].1=a at κ ab;generalize vs[k].2.1=n at κ ab;generalize vs[k].2.2=b5 at κ ab;obtain ⟨aw,a6,bH⟩:=ab;have jL:=aRY aw;clear aw;generalize m6:Fk (rv.take k) 0#64=M;have Lo:Fk (rv.take (k+1)) 0#64=zd mix l M:=by rw [al8 _ _ agU,apN,m6,abH.out]
   have lv:=aRY Lo;clear m6 Lo;rcases bH with m8 | ⟨rJ,off,rfl,r8⟩
   ·have L3:n=0:=by rw [jL.out,m8];rfl
    have aoF:=aRY m8;subst L3;clear m8;go_wp2_with fail
    refine wp_loop_rounds 1 ?_;rw [rounds_succ];go_wp2_with fail
    go_round
    case rel=>exact ⟨k+1,by omega,by go_num,by rw [lv.out,aoF.out];rfl⟩
    case measure=>simp [intOf];omega
   ·have aoy:=aRY r8;clear r8;go_wp2_with fail
    go_loop [3,16] (fun v i=>∃ q:Nat,q≤n∧i= .int .i64 q∧v= .int .u64 (U (zd mix (l.take q) M))) (fun _ i=>n - (intOf i).toNat)
    case atStart=>exact ⟨0,aSM _,rfl,rfl⟩
    case round =>
     obtain ⟨q,I,rfl,rfl⟩:=hrel;by_cases aLe:q<n
     ·have ahs:q<l.length:=by have:=jL.out;omega
      have awn:=aoy.out q ahs;generalize s8:l[q]=z at awn;generalize afY:zd mix (l.take q) M=M2;have Hl:=aRY (show zd mix (l.take (q+1)) M=Sz mix M2 z by rw [al8 _ _ ahs,apK,afY,s8]);clear s8 afY κ;go_wp2_with (go_at_call 158;(with_reducible refine (Jn _ _ M2 z rfl rfl _).mono ?_);rintro e w' ⟨rfl,rfl⟩)
      go_round
      case rel=>exact ⟨q+1,by omega,by go_num,by rw [Hl.out]⟩
      case measure=>simp [intOf];omega
     ·have axE:n=q:=by omega
      subst axE;have ay:l.take n=l:=aSk (by have:=jL.out;omega);rw [ay,← lv.out];clear ay κ;go_wp2_with fail
      go_round
      case rel=>exact ⟨k+1,by omega,by go_num,rfl⟩
      case measure=>simp [intOf];omega
  ·have Xl:N=k:=by omega
   subst Xl;have e:rv.take N=rv:=aSk (by have:=qL.out;have:=ff.out;omega);rw [e];clear e;go_wp2_with fail
   go_ret;exact ⟨Z,Z⟩

theorem Fi.later {w w':World} {a:Option Addr} {n:Nat} {zs:List cV} (h:Fi w a n zs) (Φ:Below w.heap.size w w'):Fi w' a n zs:=by
 obtain ⟨κ,ab,aw⟩:=h;refine ⟨κ,ab, ?_⟩;rcases aw with aw | ⟨b,off,ha,hc⟩
 ·exact .inl aw
 ·refine .inr ⟨b,off,ha,fun i aq=> ?_⟩;rw [Φ.cell (aTS w _ (hc i aq))];exact hc i aq

theorem apM (b n c:Nat) (a:Option Addr) (l:List cV) (w:World) (h:w.cell? ⟨b,0,none⟩=some (.slice a n c)) (hs:Fi w a n l):
  Calls prog 125 #[.slice (some ⟨b,0,none⟩) 1 1] w fun e w'=>e= .returned (.int .u64 (U (Gs mix l)))∧w=w':=by
 refine (apL b 1 [(a,n,c)] [l] w Z (by decide) (by simp) ?_ ?_).mono fun e w' h=>h
 ·intro i aq
  match i,aq with
  | 0,_=>exact h
 ·intro i aq _
  match i,aq with
  | 0,_=>exact hs
theorem YJ (a:Option Addr) (n c:Nat) (l:List cV) (w:World) (hs:Fi w a n l):
  Calls prog 87 #[.slice a n c] w fun e w'=>e= .returned (.int .u64 (U (Gs mix l)))∧Below w.heap.size w w':=by
 have Φ:=(aSr w.heap.size w).alloc (aR7 _) (.cells #[.slice a n c] 92);have gI:=hs.later Φ;go_enter func87,ntmps87;go_wp2_with fail
 refine (apM _ n c a l _ (by simp [aT3]) gI).mono ?_;rintro e w' ⟨rfl,rfl⟩;go_wp2_with fail
 go_ret;exact ⟨Z,Φ⟩

end Go.Proofs.YtmeeljmapailnaaGreat.Mark
namespace Go.Proofs.YtmeeljmapailnaaGreat
open Tryz
end Go.Proofs.YtmeeljmapailnaaGreat
namespace Go.Proofs.YtmeeljmapailnaaGreat.Tree
open Tryz
open Go.Proofs.YtmeeljmapailnaaGreat.fu Go.Proofs.YtmeeljmapailnaaGreat.Mark

def DV (s:List UInt8):cV:=s.foldl (fun m b=>mix (m ^^^ BitVec.ofNat 64 b.toNat)) (mix (BitVec.ofNat 64 s.length))
def aCv (b:cV):cV:=b <<<32 ||| b >>> 32
def I8 (a b:cV):cV:=mix (mix (a ^^^ aCv b ^^^ 1#64) ^^^ b)
def mr (n:Nat):Nat:=2 ^ Nat.log2 (n - 1)
def Zf:Nat→List (List UInt8)→cV
 | 0,_=>0#64
 | f+1,l=>match l with
  | []=>0#64
  | [s]=>DV s
  | a::b::r=>I8 (Zf f ((a::b::r).take (mr (r.length+2)))) (Zf f ((a::b::r).drop (mr (r.length+2))))
def Sf (l:List (List UInt8)):cV:=Zf l.length l
end Go.Proofs.YtmeeljmapailnaaGreat.Tree
namespace Go.Proofs.YtmeeljmapailnaaGreat
open Tryz
end Go.Proofs.YtmeeljmapailnaaGreat
namespace Go.Proofs.YtmeeljmapailnaaGreat.Tree
open Tryz
open Go.RowKit Go.Proofs.YtmeeljmapailnaaGreat Go.Proofs.YtmeeljmapailnaaGreat.fu Go.Proofs.YtmeeljmapailnaaGreat.Mark

theorem aFB (a b:cV):bits .xor .u64 (U a) (U b)=U (a ^^^ b):=by
 refine Qh (UH _ _ _) (UG _ _ _) ?_;rw [YM,wG,wG]
theorem azk (l:List UInt8) (n:Nat) (b:UInt8) (m:cV):(l++ [b]).foldl (fun m b=>mix (m ^^^ BitVec.ofNat 64 b.toNat)) m=mix (l.foldl (fun m b=>mix (m ^^^ BitVec.ofNat 64 b.toNat)) m ^^^ BitVec.ofNat 64 b.toNat):=by rw [aTt];rfl
def upto (s:ByteArray) (k:Nat):cV:=(s.data.toList.take k).foldl (fun m b=>mix (m ^^^ BitVec.ofNat 64 b.toNat)) (mix (BitVec.ofNat 64 s.size))
theorem aEw (s:ByteArray) (k:Nat) (h:k<s.size):upto s (k+1)=mix (upto s k ^^^ BitVec.ofNat 64 s[k].toNat):=by
 unfold upto;have ar:k<s.data.toList.length:=by simpa using h
 rw [aSn ar,azk _ k];rfl
theorem aEv (s:ByteArray):upto s s.size=DV s.data.toList:=by
 unfold upto DV;rw [aSk (by simp)];rfl
theorem acB (n:Nat) (h:n<18446744073709551616):((n:Nat):Int)=U (BitVec.ofNat 64 n):=by
 unfold U;rw [aTF,aTh h]
theorem IG (s:ByteArray) (hs:s.size≤9223372036854775807) (w:World):Calls prog 124 #[.string s] w fun e w'=>e= .returned (.int .u64 (U (DV s.data.toList)))∧∃ q,w'=w.drewN q:=by
 have aG:upto s 0=mix (BitVec.ofNat 64 s.size):=rfl;have QH:=acB s.size (by omega);have hm:=YA _ (BitVec.ofNat 64 s.size) QH;have dK:=aRY (aEv s);rw [← aG] at hm;have xf:=aRY aG;have hw:IntKind.u64.wrap (s.size:Int)=(s.size:Int):=by rw [aTb];omega
 clear QH aG;go_enter func124,ntmps124;go_wp2_with fail
 refine (hm _).mono ?_;rintro e w' ⟨rfl,rfl⟩;clear hw;go_wp2_with fail
 go_loop [3,11] (fun m i=>∃ k:Nat,k≤s.size∧i= .int .i64 (k:Int)∧m= .int .u64 (U (upto s k))) (fun _ i=>s.size - (intOf i).toNat)
 case atStart=>exact ⟨0,aSM _,rfl,rfl⟩
 case round =>
  obtain ⟨k,ar,rfl,rfl⟩:=hrel;by_cases bz:k<s.size
  ·have XH:=aEw s k bz;have hx:=aFB (upto s k) (BitVec.ofNat 64 s[k].toNat);rw [← acB s[k].toNat (by have:=s[k].toNat_lt;omega)] at hx;have hm:=YA _ (upto s k ^^^ BitVec.ofNat 64 s[k].toNat) rfl;rw [← XH] at hm;have fv:=aRY XH;clear XH;have aLp:IntKind.u64.wrap (s[k].toNat:Int)=(s[k].toNat:Int):=by have:=s[k].toNat_lt;rw [aTb];omega
   obtain ⟨IJ,Hl⟩:∃ IJ,Hid (upto s (k+1)=IJ):=⟨_,aRY rfl⟩;rw [Hl.out] at hm;clear fv;generalize upto s k ^^^ BitVec.ofNat 64 s[k].toNat=x at *
   generalize upto s k=tu at *
   go_wp2_with fail
   refine (hm _).mono ?_;rintro e w' ⟨rfl,rfl⟩;go_wp2_with fail
   go_round
   case rel=>exact ⟨k+1,by omega,by go_num,by rw [Hl.out]⟩
   case measure=>simp [intOf];omega
  ·obtain rfl:k=s.size:=by omega
   rw [dK.out];go_wp2_with fail
   go_ret;exact ⟨Z,0,Z⟩
def aq0 (l:List ByteArray):List Value:=l.map Value.string
def lists (l:List ByteArray):List (List UInt8):=l.map fun s=>s.data.toList
def aHZ (l:List ByteArray):Prop:=∀ s∈l,s.size≤9223372036854775807
end Go.Proofs.YtmeeljmapailnaaGreat.Tree
namespace Go.Proofs.YtmeeljmapailnaaGreat
open Tryz
end Go.Proofs.YtmeeljmapailnaaGreat
namespace Go.Proofs.YtmeeljmapailnaaGreat.Pack
open Tryz
open Go.Proofs.YtmeeljmapailnaaGreat.fu
def kA:Nat→Nat→List UInt8
  | 0,n=> [UInt8.ofNat n]
  | k+1,n=>if n<128 then [UInt8.ofNat n] else UInt8.ofNat (n % 128+128)::kA k (n / 128)
def d' (n:Nat):List UInt8:=kA 9 n
def val:List UInt8→Nat
  | []=>0
  | b::l=>b.toNat % 128+128 * val l

theorem B9 {k n:Nat} (h:n<128):kA k n= [UInt8.ofNat n]:=by
  cases k with
  | zero=>rfl
  | succ k=>unfold kA;rw [aR8 h]
theorem B8 {k n:Nat} (h:¬ n<128):kA (k+1) n=UInt8.ofNat (n % 128+128)::kA k (n / 128):=by
  rw [kA];rw [aR5 h]
theorem YY (k n:Nat):(kA k n).length≤k+1∧1≤(kA k n).length:=by
  induction k generalizing n with
  | zero=>simp [kA]
  | succ k bx =>
    by_cases h:n<128
    · rw [B9 h];simp
    · rw [B8 h];have:=bx (n / 128);simp;omega
theorem B_ (n:Nat):(d' n).length≤10∧1≤(d' n).length:=YY 9 n

theorem I_ {n k:Nat} (h:n<128 ^ (k+2)):n / 128<128 ^ (k+1):=by
  rw [aUW] at h;exact Nat.div_lt_of_lt_mul (by rw [aTe];exact h)
theorem aEA (k n:Nat) (h:n<128 ^ (k+1)):val (kA k n)=n:=by
  induction k generalizing n with
  | zero =>
    have κ:n<128:=by simpa using h
    simp only [kA,val,aSX];omega
  | succ k bx =>
    by_cases κ:n<128
    · rw [B9 κ]
      simp only [val,aSX];omega
    · rw [B8 κ]
      simp only [val,aSX];rw [bx (n / 128) (I_ h)];omega
theorem Ge {n:Nat} (h:n<18446744073709551616):n<128 ^ (9+1):=aTC h (by decide)
theorem aEB (n:Nat) (h:n<18446744073709551616):val (d' n)=n:=aEA 9 n (Ge h)
theorem aBS (k n i:Nat) (hn:n<128 ^ (k+1)) (h:i+1<(kA k n).length) (aq:i<(kA k n).length):128≤((kA k n)[i]).toNat:=by
  induction k generalizing n i with
  | zero=>simp [kA] at h
  | succ k bx =>
    by_cases κ:n<128
    · simp [B9 κ] at h
    · simp only [B8 κ] at h aq ⊢
      cases i with
      | zero=>simp only [aUY,aSX];omega
      | succ i =>
        simp only [aUZ];exact bx (n / 128) i (I_ hn) (by simpa using h) (by simpa using aq)
theorem akY (k n:Nat) (hn:n<128 ^ (k+1)) (i:Nat) (aq:i<(kA k n).length) (ay:i+1=(kA k n).length):((kA k n)[i]).toNat<128:=by
  induction k generalizing n i with
  | zero =>
    have κ:n<128:=by simpa using hn
    simp only [kA,aWs,aSX];omega
  | succ k bx =>
    by_cases κ:n<128
    · simp only [B9 κ,aWs,aSX]
      omega
    · simp only [B8 κ] at ay aq ⊢
      cases i with
      | zero =>
        have ab:=(YY k (n / 128)).2;rw [aR0] at ay;omega
      | succ i =>
        simp only [aUZ];exact bx (n / 128) (I_ hn) i (by simpa using aq) (by simpa using ay)
theorem aEC (l:List UInt8) (b:UInt8):val (l++ [b])=val l+128 ^ l.length * (b.toNat % 128):=by
  induction l with
  | nil=>simp [val]
  | cons x l bx =>
    simp only [aTB,val,bx,aR0,aUW];rw [Nat.mul_add,← Nat.mul_assoc,aTe 128 (128 ^ l.length)];omega
theorem aEz (l:List UInt8):val l<128 ^ l.length:=by
  induction l with
  | nil=>simp [val]
  | cons x l bx =>
    simp only [val,aR0,aUW];omega
def J9 (l:List UInt8) (n:Nat) (rest:List UInt8) (e:Int):Prop :=
  (∃ k,k<10∧k<l.length∧(∀ i (h:i<l.length),i<k→128≤l[i].toNat)∧(∀ h:k<l.length,l[k].toNat<128)∧
    ((d' (val (l.take (k+1)) % 18446744073709551616)=l.take (k+1)∧n=val (l.take (k+1)) % 18446744073709551616∧rest=l.drop (k+1)∧e=0)∨
     (d' (val (l.take (k+1)) % 18446744073709551616)≠l.take (k+1)∧n=0∧rest= []∧e=4)))∨
  (l.length<10∧(∀ i (h:i<l.length),128≤l[i].toNat)∧n=0∧rest= []∧e=3)∨
  (10≤l.length∧(∀ i (h:i<l.length),i<10→128≤l[i].toNat)∧n=0∧rest= []∧e=4)
def pa (x:Int):Nat:=if 0≤x then (2 * x).toNat else (-2 * x - 1).toNat
end Go.Proofs.YtmeeljmapailnaaGreat.Pack
namespace Go.Proofs.YtmeeljmapailnaaGreat
open Tryz
end Go.Proofs.YtmeeljmapailnaaGreat
