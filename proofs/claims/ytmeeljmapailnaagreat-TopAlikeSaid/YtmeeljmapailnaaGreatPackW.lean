import Derived.Test.YtmeeljmapailnaaGreatShelf
import Derived.Lib.BitFns
set_option linter.unusedVariables false
set_option linter.unusedSimpArgs false
set_option maxRecDepth 100000
set_option maxHeartbeats 4000000
open Go.RowKit
namespace Go.Proofs.YtmeeljmapailnaaGreat
open Tryz
abbrev aUG:=@UInt8.toNat_ofNat'
abbrev aVU:=@Go.World.cell?_alloc_new
abbrev aWL:=@Nat.pow_succ
abbrev aWQ:=@Nat.two_pow_pos
abbrev aWT:=@Go.Lib.extract_data
abbrev aXL:=@Go.bits_nat
abbrev aYk:=@List.getElem_singleton
abbrev aYl:=@List.filter_eq_nil_iff
abbrev aYB:=@Go.run_convert_bytes_back
abbrev aYN:=@BitVec.xor_allOnes
section
def ir (W:ak) (l:List aN):Int:=if ot W l≠0 then ot W l else if 1000000≤W.now then 6 else 0
def z6 (W:ak) (l:List aN):ak:=j1 W (fT W l l.length)
noncomputable def z7 (W:ak) (l:List aN):ak:=kh (z6 W l) (gl W l l.length)
noncomputable def uz (W:ak) (l:List aN):ak:=(z7 W l).lM (gC W l l.length)
noncomputable def ou (W:ak) (l:List aN):ak:=if ir W l≠0 then ak.zero else {uz W l with now:=(uz W l).now+1}
def z_ (W:ak) (l:List aN):List Int:=if ir W l≠0 then [] else ye W (fT W l l.length)
noncomputable def Aa (W:ak) (l:List aN):List Int:=if ir W l≠0 then [] else qV (z6 W l) (gl W l l.length)
noncomputable def z8 (W:ak) (l:List aN):List Bool:=if ir W l≠0 then [] else (z7 W l).xf (gC W l l.length)
theorem amc {W:ak} {l:List aN} (h:ir W l≠0):ou W l=ak.zero∧z_ W l= []∧Aa W l= []∧z8 W l= []:=by
 unfold ou z_ Aa z8;simp only [aTO h,and_self]
theorem amd {W:ak} {l:List aN} (h:ir W l=0):ou W l= {uz W l with now:=(uz W l).now+1}∧z_ W l=ye W (fT W l l.length)∧Aa W l=qV (z6 W l) (gl W l l.length)∧z8 W l=(z7 W l).xf (gC W l l.length):=by
 have c7:¬ ir W l≠0:=by simpa using h
 unfold ou z_ Aa z8;simp only [aTL c7,and_self]
theorem aal {W:ak} {l:List aN} (h:ir W l=0):ot W l=0∧W.now<1000000∧W.bn=0∧l.length≤100:=by
 unfold ir at h;split at h
 ·contradiction
 ·rename_i τ
  have τ:ot W l=0:=by simpa using τ
  split at h
  ·exact nomatch h
  ·exact ⟨τ,by omega,(SA τ).2,aFz τ⟩
theorem atc {W:ak} {l:List cG} (h:W.bn=0) (aC:l.length≤200):W.rA l=0∧W.lM l=(W.ij l).1:=by
 have e:W.rA l=0:=by unfold ak.rA;rw [aTL (by omega),aTL (by omega)]
 exact ⟨e,by unfold ak.lM;rw [aTO e]⟩
theorem Ve {W:ak} {l:List dF} (h:W.bn=0) (aC:l.length≤200):l_ W l=0:=by unfold l_;rw [aTL (by omega),aTL (by omega)]
theorem aGl {W:ak} {l:List aN} (h:ir W l=0):l_ W (fT W l l.length)=0∧r6 (z6 W l) (gl W l l.length)=0∧(z7 W l).rA (gC W l l.length)=0∧Good (z6 W l)∧Good (z7 W l)∧Good (uz W l):=by
 obtain ⟨τ,ae,aw,aU⟩:=aal h;obtain ⟨hL,dH,gy⟩:=alO W l l.length;have aY:=Ve (l:=fT W l l.length) aw (by omega);have g1:Good (z6 W l):=(al0 aY).right;have bb:=(RV (W:=z6 W l) (l:=gl W l l.length) g1.bn (by omega)).1;have g2:Good (z7 W l):=(aBL bb).1;obtain ⟨cP,jq⟩:=atc (W:=z7 W l) (l:=gC W l l.length) g2.bn (by omega);refine ⟨aY,bb,cP,g1,g2, ?_⟩;unfold uz;rw [jq];exact g2.ij _
def Po (W:ak) (l:List aN) (w:World) (e:Ending) (w':World):Prop :=
 ∃ a' b1 bo cw c1 dg c2,e= .returned (.tuple #[.agg (ak.cells a' (ou W l)).toArray, .agg #[.slice b1 (z_ W l).length bo, .slice cw (Aa W l).length c1, .slice dg (z8 W l).length c2],J (ir W l)])∧bO w' w.heap.size a' (ou W l)∧
  bW.aH 3 8 w' w.heap.size (aa.aj b1) b1 bo (z_ W l)∧bW.aH 3 8 w' w.heap.size (aa.aj cw) cw c1 (Aa W l)∧zW.aH 4 1 w' w.heap.size (aa.aj dg) dg c2 (z8 W l)∧
  (∀ q,(q∈aa.aj b1∨q∈aa.aj cw∨q∈aa.aj dg)→q∉bO.cM a')∧Ext w w'
theorem aGi (a:ak.b_) (W:ak) (A:Option Addr) (c:Nat) (l:List aN) (w:World) (b4:ak.Has w a W) (aC:aN.rep.aG 48 w A c l) (τ:ot W l≠0):
  Calls prog 9 #[.agg ((ak.cells a W).toArray), .slice A l.length c] w (Po W l w):=by
 have d':(ot W l == 0)=false:=by simpa using τ
 have eu:(ot W l != 0)=true:=by simpa using τ
 refine b' (n:=62) func9 Z Z Z ?_;refine ah<|ck Z Z Z Z λ cK bR bq dU ai=> ?_;have ba:=ab (Ext.bg w) bq;have ib:=ai.lt;refine al Z pN Z Z λ ea cC br gO ax=> ?_;have bE:=ab ba br;have mi:=ax.lt;refine al Z HL Z Z λ gJ iA cI qQ bB=> ?_;have cJ:=ab bE cI;refine va Z<|ag<|ah<|vm Z<| ?_;have ai:=ai.later (ab br cI);refine Φ (ao Z (ai.all dA cm))<|ca VS Z Z ((aFA _ _ l a W _ (aC.keep cJ) (b4.keep cJ) τ).mono ?_);rintro e nN ⟨rfl,fo⟩;refine ⟨_,Z, ?_⟩;have fp:=ab cJ fo;refine vm Z<|Φ (ex Z Z)<|Φ (ex Z Z)<|Φ (ex Z Z)<|Φ (ex Z Z)<|va Z<|va Z<|va Z<|va Z<|ag<|ay<|ah<|vm Z<|Φ (beq Z Z)<|vm (gW Z d')<|aax Z<|aax Z<|aax Z<|Φ (s6 Z Z)<|ag<|hj Z<| ?_;refine bl<|ay<|ah<|vm Z<|Φ (bne Z Z)<|ag<|fH (gW Z eu)<|ah<|Φ (v:= .agg #[J 0,J 0, .slice none 0 0, .slice none 0 0, .slice none 0 0, .slice none 0 0, .slice none 0 0,J 0,J 0]) (cY Z (by kernel_rfl))<|Φ (v:= .agg #[.slice none 0 0, .slice none 0 0, .slice none 0 0]) (cY Z (by kernel_rfl))<|vm Z<| ?_;have ax:=ax.later (ab cI fo);refine st (new:= [J 0,J 0, .slice none 0 0, .slice none 0 0, .slice none 0 0, .slice none 0 0, .slice none 0 0,J 0,J 0]) Z Z ax Z cm Z Z Z λ q3 DM ax=> ?_;have ie:=Ext.mod fp DM bC;have bB:=(bB.later fo).mod DM aQ;refine st (new:= [.slice none 0 0, .slice none 0 0, .slice none 0 0]) Z Z bB Z Ba Z Z Z λ sj xP bB=> ?_;have hU:=Ext.mod ie xP bC;refine va Z<|ag<|rt<|bP<| ?_;have ax:=ax.mod xP aQ;refine aV (.cell Z (ax.all dA cm) (.cell Z (bB.all P7 Ba) (.tmp Z .nil)))<| ?_;have e0:ir W l=ot W l:=by unfold ir;rw [aTO τ]
 obtain ⟨mv,z2,z3,z4⟩:=amc (W:=W) (l:=l) (by rw [e0];first | exact τ | decide);exact ⟨⟨none,none,none,none,none,0,0,0,0,0⟩,none,0,none,0,none,0,by rw [e0,mv,z2,z3,z4];rfl,by rw [mv];exact bO.zero _ _,by rw [z2];exact aa.aH.nil _,by rw [z3];exact aa.aH.nil _,by rw [z4];exact aa.aH.nil _,λ q I=>by simp [aa.aj] at I,hU⟩
theorem aGj (a:ak.b_) (W:ak) (A:Option Addr) (c:Nat) (l:List aN) (w:World) (b4:ak.Has w a W) (aC:aN.rep.aG 48 w A c l) (τ:ot W l=0) (ae:1000000≤W.now):
  Calls prog 9 #[.agg ((ak.cells a W).toArray), .slice A l.length c] w (Po W l w):=by
 refine b' (n:=62) func9 Z Z Z ?_;refine ah<|ck Z Z Z Z λ cK bR bq dU ai=> ?_;have ba:=ab (Ext.bg w) bq;have ib:=ai.lt;refine al Z pN Z Z λ ea cC br gO ax=> ?_;have bE:=ab ba br;have mi:=ax.lt;refine al Z HL Z Z λ gJ iA cI qQ bB=> ?_;have cJ:=ab bE cI;refine va Z<|ag<|ah<|vm Z<| ?_;have ai:=ai.later (ab br cI);refine Φ (ao Z (ai.all dA cm))<|ca VS Z Z ((alQ _ _ l a W _ (aC.keep cJ) (b4.keep cJ) τ).mono ?_);rintro e sj ⟨anN,arP,TQ,arQ,anO,Vr,rfl,OZ,Hh,Hi,fx⟩;refine ⟨_,Z, ?_⟩;have hU:=ab cJ fx;refine vm Z<|Φ (ex Z Z)<|Φ (ex Z Z)<|Φ (ex Z Z)<|Φ (ex Z Z)<|va Z<|va Z<|va Z<|va Z<|ag<|ay<|ah<|vm Z<|Φ (beq Z Z)<|vm Z<|lZ Z Z Z<|Φ (av E_ Z)<|lZ Z Z Z<| ?_;have ai:=ai.later fx;refine Φ (ao Z (ai.one a6 Z))<|lZ Z Z Z<|Φ (j_ Z Z)<|Φ (qg Z Z)<|ag<| ?_;have n4:(decide (1000000≤W.now))=true:=by exact aT3 ae
 refine fH (by rw [← n4];rfl)<|rg<|va Z<|ag<|ay<|ah<|vm Z<|Φ (bne Z Z)<|ag<|fH Z<|ah<|Φ (v:= .agg #[J 0,J 0, .slice none 0 0, .slice none 0 0, .slice none 0 0, .slice none 0 0, .slice none 0 0,J 0,J 0]) (cY Z (by kernel_rfl))<|Φ (v:= .agg #[.slice none 0 0, .slice none 0 0, .slice none 0 0]) (cY Z (by kernel_rfl))<|vm Z<| ?_;have ax:=ax.later (ab cI fx);refine st (new:= [J 0,J 0, .slice none 0 0, .slice none 0 0, .slice none 0 0, .slice none 0 0, .slice none 0 0,J 0,J 0]) Z Z ax Z cm Z Z Z λ Ea IU ax=> ?_;have sx:=Ext.mod hU IU bC;have bB:=(bB.later fx).mod IU aQ;refine st (new:= [.slice none 0 0, .slice none 0 0, .slice none 0 0]) Z Z bB Z Ba Z Z Z λ sk zM bB=> ?_;have jQ:=Ext.mod sx zM bC;refine va Z<|ag<|rt<|bP<| ?_;have ax:=ax.mod zM aQ;refine aV (.cell Z (ax.all dA cm) (.cell Z (bB.all P7 Ba) (.tmp Z .nil)))<| ?_;have e0:ir W l=6:=by unfold ir;rw [aTL (by simpa using τ),aTO ae]
 obtain ⟨mv,z2,z3,z4⟩:=amc (W:=W) (l:=l) (by rw [e0];first | exact τ | decide);exact ⟨⟨none,none,none,none,none,0,0,0,0,0⟩,none,0,none,0,none,0,by rw [e0,mv,z2,z3,z4];rfl,by rw [mv];exact bO.zero _ _,by rw [z2];exact aa.aH.nil _,by rw [z3];exact aa.aH.nil _,by rw [z4];exact aa.aH.nil _,λ q I=>by simp [aa.aj] at I,jQ⟩
theorem aGk (a:ak.b_) (W:ak) (A:Option Addr) (c:Nat) (l:List aN) (w:World) (b4:ak.Has w a W) (aC:aN.rep.aG 48 w A c l) (aK:ir W l=0):
  Calls prog 9 #[.agg ((ak.cells a W).toArray), .slice A l.length c] w (Po W l w):=by
 obtain ⟨τ,ae,aw,aU⟩:=aal aK;obtain ⟨aY,bb,cP,g1,g2,g3⟩:=aGl aK;have ayU:0≤(uz W l).now∧(uz W l).now≤1000000:=g3.now;refine b' (n:=62) func9 Z Z Z ?_;refine ah<|ck Z Z Z Z λ cK bR bq dU ai=> ?_;have ba:=ab (Ext.bg w) bq;have ib:=ai.lt;refine al Z pN Z Z λ ea cC br gO ax=> ?_;have bE:=ab ba br;have mi:=ax.lt;refine al Z HL Z Z λ gJ iA cI qQ bB=> ?_;have cJ:=ab bE cI;have ya:=bB.lt;refine va Z<|ag<|ah<|vm Z<| ?_;have ai:=ai.later (ab br cI);refine Φ (ao Z (ai.all dA cm))<|ca VS Z Z ((alQ _ _ l a W _ (aC.keep cJ) (b4.keep cJ) τ).mono ?_);rintro e sj ⟨anN,arP,TQ,arQ,anO,Vr,rfl,OZ,Hh,Hi,fx⟩;refine ⟨_,Z, ?_⟩;have:=fx.size;have hU:=ab cJ fx;have aGC:=b7 Hh.lt;have RK:=dM Hh.lt;have qi:=b7 Hi.lt;have o3:=dM Hi.lt;refine vm Z<|Φ (ex Z Z)<|Φ (ex Z Z)<|Φ (ex Z Z)<|Φ (ex Z Z)<|va Z<|va Z<|va Z<|va Z<|ag<|ay<|ah<|vm Z<|Φ (beq Z Z)<|vm Z<|lZ Z Z Z<|Φ (av E_ Z)<|lZ Z Z Z<| ?_;have ai:=ai.later fx;refine Φ (ao Z (ai.one a6 Z))<|lZ Z Z Z<|Φ (j_ Z Z)<|Φ (qg Z Z)<|ag<| ?_;have n4:(decide (1000000≤W.now))=false:=by exact aT4 (by omega)
 refine hj (by rw [← n4];rfl)<|bl<|ay<|ah<|vm Z<|Φ (bne Z Z)<|ag<|hj Z<|bl<|ah<|al Z HL Z Z λ Ea aLj j4 aPj qz=> ?_;have:=j4.size;have sx:=ab hU j4;have aRw:=qz.lt;refine ag<|ah<| ?_;have ai:=ai.later j4;refine Φ (ao Z (ai.all dA cm))<|vm Z<| ?_;have OZ:=OZ.later j4;refine ca aeF Z Z ((alY (fT W l (l).length) _ _ a W _ (b4.keep sx) OZ.has).mono ?_);rintro e Gz ⟨a40,Ap,A3,rfl,OI,Kn,axN,qo⟩;refine ⟨_,Z, ?_⟩;have:=qo.size;have q7:=ab sx qo;have sY:=dM OI.lt;have Jp:=b7 Kn.lt;have BD:=dM Kn.lt;refine vm Z<|Φ (ex Z Z)<|Φ (ex Z Z)<|Φ (ex Z Z)<| ?_;have ai:=ai.later qo;refine st Z Z ai Z cm Z Z Z λ Ed zN ai=> ?_;have:=zN.size;have nb:=Ext.mod q7 zN bC;refine Φ (av at5 Z)<| ?_;have qz:=(qz.later qo).mod zN aQ;refine fb Z Z qz Z xk Z Z λ GA hQ qz=> ?_;have:=hQ.size;have py:=Ext.mod nb hQ bC;refine ag<|ah<| ?_;have ai:=ai.mod hQ aQ;refine Φ (ao Z (ai.all dA cm))<|vm Z<| ?_;have Hh:=((Hh.later (ab j4 qo)).mod zN (bJ RK)).mod hQ (b0 aGC);have OI:=(OI.mod zN (bJ sY)).mod hQ (bJ sY);refine ca at6 Z Z ((aB9 a40 (j1 W (fT W l (l).length)) _ _ (gl W l (l).length) _ OI.has Hh.has).mono ?_);rintro e JB ⟨Hm,aa9,ac8,rfl,yX,Kp,Q3,qq⟩;refine ⟨_,Z, ?_⟩;have:=qq.size;have q8:=ab py qq;have IK:=dM yX.lt;have Ae:=b7 Kp.lt;have FW:=dM Kp.lt;refine vm Z<|Φ (ex Z Z)<|Φ (ex Z Z)<|Φ (ex Z Z)<| ?_;have ai:=ai.later qq;refine st Z Z ai Z cm Z Z Z λ NM uw ai=> ?_;have:=uw.size;have q9:=Ext.mod q8 uw bC;refine Φ (av at7 Z)<| ?_;have qz:=(qz.later qq).mod uw aQ;refine fb Z Z qz Z xk Z Z λ amO BJ qz=> ?_;have:=BJ.size;have Og:=Ext.mod q9 BJ bC;refine ag<|ah<| ?_;have ai:=ai.mod BJ aQ;refine Φ (ao Z (ai.all dA cm))<|vm Z<| ?_;have Hi:=(((((Hi.later (ab j4 qo)).mod zN (bJ o3)).mod hQ (b0 qi)).later qq).mod uw (bJ o3)).mod BJ (b0 qi);have yX:=(yX.mod uw (bJ IK)).mod BJ (bJ IK);refine ca at8 Z Z ((ati (gC W l (l).length) _ _ _ Hm (kh (j1 W (fT W l (l).length)) (gl W l (l).length)) yX.has Hi.has).mono ?_);rintro e Te ⟨tR,TU,adh,rfl,EE,OX,axS,ec⟩;refine ⟨_,Z, ?_⟩;have tE:=ab Og ec;have FX:=dM EE.lt;have MN:=dM OX.lt;have asW:∀ q∈aa.aj TU,q∈bO.cM tR→False:=axS;refine vm Z<|Φ (ex Z Z)<|Φ (ex Z Z)<|Φ (ex Z Z)<| ?_;have ai:=ai.later ec;refine st Z Z ai Z cm Z Z Z λ B8 il ai=> ?_;have nc:=Ext.mod tE il bC;refine Φ (av at9 Z)<| ?_;have qz:=(qz.later ec).mod il aQ;refine fb Z Z qz Z aua Z Z λ amR xS qz=> ?_;have Oi:=Ext.mod nc xS bC;refine ag<|ah<|Φ (av E_ Z)<| ?_;have ai:=ai.mod xS aQ;refine Φ (ao Z (ai.one a6 Z))<|Φ (bad Z Z (bf ((by have I:_∧_:=ayU;unfold uz z7 z6 at I;omega))))<|Φ (av E_ Z)<|fb Z Z ai Z dI Z Z λ aaH xT ai=> ?_;have GY:=Ext.mod Oi xT bC;refine ag<|ay<| ?_;refine Sn [cC] [(0,0),(1,0),(2,2),(3,3)] [0,1,2,3,4] (by kernel_rfl) (by kernel_rfl) ?_;refine zo Z Z (λ _ x=>ao Z ((ai.mod x aQ).all dA cm)) Z<| ?_;have qz:=qz.mod xT aQ;refine zo Z Z (λ _ x=>ao Z ((qz.mod x aQ).all P7 Ba)) Z<| ?_;have ax:=(((((((((ax.later (ab cI (ab fx (ab j4 qo)))).mod zN aQ).mod hQ aQ).later qq).mod uw aQ).mod BJ aQ).later ec).mod il aQ).mod xS aQ).mod xT aQ;refine Fj Z Z Z λ NR hG Q hK=>st (new:= [J (((kh (j1 W (fT W l (l).length)) (gl W l (l).length)).lM (gC W l (l).length)).field.wide),J (((kh (j1 W (fT W l (l).length)) (gl W l (l).length)).lM (gC W l (l).length)).field.high), .slice tR.P (((kh (j1 W (fT W l (l).length)) (gl W l (l).length)).lM (gC W l (l).length)).field.a8.length) tR.p, .slice tR.B (((kh (j1 W (fT W l (l).length)) (gl W l (l).length)).lM (gC W l (l).length)).a7.length) tR.b, .slice tR.S (((kh (j1 W (fT W l (l).length)) (gl W l (l).length)).lM (gC W l (l).length)).bp.length) tR.s, .slice tR.M (((kh (j1 W (fT W l (l).length)) (gl W l (l).length)).lM (gC W l (l).length)).bM.length) tR.m, .slice tR.T (((kh (j1 W (fT W l (l).length)) (gl W l (l).length)).lM (gC W l (l).length)).aq.length) tR.t,J (((kh (j1 W (fT W l (l).length)) (gl W l (l).length)).lM (gC W l (l).length)).next),J ((((kh (j1 W (fT W l (l).length)) (gl W l (l).length)).lM (gC W l (l).length)).now)+1)]) Z Z (ax.later hG) Z cm Z Z Z λ NS mX ax=>hK _ _ ⟨(Mod.bt hG).trans mX, ?_⟩;have yF:=ab GY hG;have wA:=Ext.mod yF mX bC;have bB:=(((((((((((bB.later (ab fx (ab j4 qo))).mod zN aQ).mod hQ aQ).later qq).mod uw aQ).mod BJ aQ).later ec).mod il aQ).mod xS aQ).mod xT aQ).later hG).mod mX aQ;refine Wn Z Z Z λ JG lp Q hK=>st (new:= [.slice Ap ((ye W (fT W l (l).length)).length) A3, .slice aa9 ((qV (j1 W (fT W l (l).length)) (gl W l (l).length)).length) ac8, .slice TU (((kh (j1 W (fT W l (l).length)) (gl W l (l).length)).xf (gC W l (l).length)).length) adh]) Z Z (bB.later lp) Z Ba Z Z Z λ Jv mU bB=>hK _ _ ?_;have qw:=ab wA lp;have N7:=Ext.mod qw mU bC;refine jF Z Z (λ _=>fG Z) Z<|Qq λ S6 Cc=> ?_;have Cf:=ab N7 Cc;refine aP<|rt<| ?_;have ax:=((ax.later lp).mod mU aQ).later Cc;have bB:=bB.later Cc;refine aV (.cell Z (ax.all dA cm) (.cell Z (bB.all P7 Ba) (.tmp Z .nil)))<| ?_;have EE:=(((((((EE.mod il (bJ FX)).mod xS (bJ FX)).mod xT (bJ FX)).later hG).mod mX (bJ FX)).later lp).mod mU (bJ FX)).later Cc;have Kn:=(((((((((((((Kn.mod zN (bJ BD)).mod hQ (bJ BD)).later qq).mod uw (bJ BD)).mod BJ (bJ BD)).later ec).mod il (bJ BD)).mod xS (bJ BD)).mod xT (bJ BD)).later hG).mod mX (bJ BD)).later lp).mod mU (bJ BD)).later Cc;have Kp:=((((((((((Kp.mod uw (bJ FW)).mod BJ (bJ FW)).later ec).mod il (bJ FW)).mod xS (bJ FW)).mod xT (bJ FW)).later hG).mod mX (bJ FW)).later lp).mod mU (bJ FW)).later Cc;have OX:=(((((((OX.mod il (bJ MN)).mod xS (bJ MN)).mod xT (bJ MN)).later hG).mod mX (bJ MN)).later lp).mod mU (bJ MN)).later Cc;obtain ⟨mv,z2,z3,z4⟩:=amd aK;have hR:bO S6 w.heap.size tR (ou W l):=by rw [mv];exact (EE.down (by omega)).aly Z Z Z Z Z ⟨EE.nums.1,EE.nums.2.1,EE.nums.2.2.1,bY.2 (by show _≤(uz W l).now+1∧(uz W l).now+1≤_;omega)⟩
 exact ⟨tR,Ap,A3,aa9,ac8,TU,adh,by rw [aK,mv,z2,z3,z4];rfl,hR,by rw [z2];exact Kn.down (by omega),by rw [z3];exact Kp.down (by omega),by rw [z4];exact OX.down (by omega),λ q I hf=>I.elim (λ I=>by exfalso;(have:=FX q hf;(have:=Jp q I;omega))) (λ I=>I.elim (λ I=>by exfalso;(have:=FX q hf;(have:=Ae q I;omega))) (λ I=>asW q I hf)),Cf⟩
theorem NC (a:ak.b_) (W:ak) (A:Option Addr) (c:Nat) (l:List aN) (w:World) (b4:ak.Has w a W) (aC:aN.rep.aG 48 w A c l):Calls prog 9 #[.agg (ak.cells a W).toArray, .slice A l.length c] w (Po W l w):=by
 by_cases τ:ot W l=0
 ·by_cases ae:1000000≤W.now
  ·exact aGj a W A c l w b4 aC τ ae
  ·exact aGk a W A c l w b4 aC (by unfold ir;rw [aTL (by simpa using τ),aTL ae])
 ·exact aGi a W A c l w b4 aC τ
end
section
structure Kept (W V:ak):Prop where
 field:V.field=W.field
 a7:V.a7=W.a7
 now:V.now=W.now
 next:V.next=W.next+((V.aq.length:Int) - W.aq.length)
 len:W.aq.length≤V.aq.length
 old:∀ (i:Nat) (t:bd),W.aq[i]? =some t→∃ u:bd,V.aq[i]? =some u∧ {u with load:=t.load}=t
 new:∀ (i:Nat) (u:bd),W.aq.length≤i→V.aq[i]? =some u→W.next≤u.id
theorem Kept.bg (W:ak):Kept W W:=⟨rfl,rfl,rfl,by omega,aTK _,λ i t h=>⟨t,h,rfl⟩,λ i u h hu=>by
 rw [aUH (by omega)] at hu;cases hu⟩
theorem Kept.nL {U V W:ak} (h:Kept U V) (k:Kept V W):Kept U W where
 field:=k.field.trans h.field
 a7:=k.a7.trans h.a7
 now:=k.now.trans h.now
 next:=by rw [k.next,h.next];omega
 len:=aUc h.len k.len
 old i t aJ:=by
  obtain ⟨u,hu,e⟩:=h.old i t aJ;obtain ⟨x,hx,bb⟩:=k.old i u hu;refine ⟨x,hx, ?_⟩;rw [← e,← bb]
 new i u ar hu:=by
  by_cases τ:i<V.aq.length
  ·obtain ⟨t,aJ⟩:=gH τ;obtain ⟨x,hx,e⟩:=k.old i t aJ;rw [hu] at hx;obtain rfl:=aTA hx;have:=h.new i t ar aJ;have cP:t.id=u.id:=by rw [← e]
   omega
  ·have ae:=k.new i u (by omega) hu;have:=h.next;have:=h.len;omega
theorem Kept.getD {W V:ak} (h:Kept W V) {i:Nat} (ar:i<W.aq.length): {V.aq.getD i default with load:=(W.aq.getD i default).load}=W.aq.getD i default:=by
 obtain ⟨t,aJ⟩:=gH ar;obtain ⟨u,hu,e⟩:=h.old i t aJ;rw [aTB,aTB,aJ,hu];exact e
def akD:List cG→List Bool→List cG
 | d::l,b::cu=>if b then d::akD l cu else akD l cu
 | _,_=> []
end
section
theorem alZ {W:ak} (h:W.bn=0):j1 W []=W∧ye W []= []:=by
 have aY:=Ve (l:= []) h (by decide);have hS:=al0 aY;have fI:fW W []=List.replicate W.aq.length 0:=by unfold fW;rw [aY];rfl
 have hu:Bu W []=W.aq:=by
  apply aUS;intro i;cases aJ:W.aq[i]? with
  | none =>
   have:=List.getElem?_eq_none_iff.1 aJ;rw [aUH (by rw [Rr];exact this)]
  | some t =>
   rw [Rq aJ,fI];have:(List.replicate W.aq.length (0:Int)).getD i 0=0:=by
    rw [aTB,aUO];split<;>rfl
   rw [this,Int.sub_zero]
 have hf:∀ t∈W.aq,0<t.dk:=λ t aJ=>by have:=(hS.ks.each aJ).2.2.dk;omega
 constructor
 ·rw [hS.b4,hu,aXc.2 λ t aJ=>aT3 (hf t aJ)]
 ·rw [hS.bQ,hu,aYl.2 λ t aJ=>by simp [hf t aJ]];rfl
theorem alT {f:aI} {T:List bd}:∀ k,j0 f [] T k=(T, [])
 | 0=>rfl
 | k+1=>Gp (alT k) (alV (by show fP _ ([]:List dG)<0;unfold fP;simp))
theorem aBK {W:ak} (h:W.bn=0):kh W []=W∧qV W []= []:=by
 obtain ⟨aY,bb,cP⟩:=RV (W:=W) (l:= []) h (by decide);rw [bb,cP];unfold ak.lY;rw [alT];exact ⟨Z,Z⟩
def nK:List aN:= [⟨0,3,1,⟨2,0⟩,0⟩]
def aai:ak:=⟨⟨3,1, [0,0,3]⟩, [⟨0,0⟩], [20], [0,0,8], [⟨1,0,1,⟨1,0⟩,10,1⟩],2,1⟩
theorem aam:ir k0 nK=0∧ou k0 nK=aai∧z_ k0 nK= []∧Aa k0 nK= []∧z8 k0 nK= [true]:=by
 have hc:k0.bn=0:=by decide +kernel
 have aew:fT k0 nK nK.length= []:=by decide +kernel
 have ae5:gl k0 nK nK.length= []:=by decide +kernel
 have aex:gC k0 nK nK.length= [⟨1,1,⟨2,0⟩,0⟩]:=by decide +kernel
 have aY:ir k0 nK=0:=by decide +kernel
 obtain ⟨mv,z2,z3,z4⟩:=amd aY;obtain ⟨s1,s2⟩:=alZ hc;have t1:z6 k0 nK=k0:=by unfold z6;rw [aew];exact s1
 obtain ⟨dy,qU⟩:=aBK hc;have t2:z7 k0 nK=k0:=by unfold z7;rw [t1,ae5];exact dy
 have t3:uz k0 nK=k0.lM [⟨1,1,⟨2,0⟩,0⟩]:=by unfold uz;rw [t2,aex]
 have hd:k0.lM [⟨1,1,⟨2,0⟩,0⟩]= {aai with now:=0}:=by decide +kernel
 refine ⟨aY, ?_, ?_, ?_, ?_⟩
 ·rw [mv,t3,hd];rfl
 ·rw [z2,aew];exact s2
 ·rw [z3,t1,ae5];exact qU
 ·rw [z4,t2,aex];decide +kernel
end
section
structure hh where
 a:Option Addr
 n:Nat
 c:Nat
instance:Inhabited hh:=⟨⟨none,0,0⟩⟩
def m2:aa hh:=aa.flat 1 (λ v=> [.slice v.a v.n v.c]) (λ _=>True) (λ _ u=>∃ a n c,u= .slice a n c) (λ _=>rfl) (by intro a u hu;simp at hu;subst hu;rfl) (by
 intro a j u hu;cases j with
 | zero=>simp at hu;exact ⟨_,_,_,hu.symm⟩
 | succ j=>simp at hu)
theorem LH {w:World} {cs:List Value} {a:hh} (h:m2.has w cs a):cs= [.slice a.a a.n a.c]:=aVP (show cs= [.slice a.a a.n a.c]∧True from h)
theorem ZG:∀ (j:Nat) u,(Value.slice none 0 0).cells[j]? =some u→m2.raw j u:=by
 intro j u hu;have hu:(#[(.slice none 0 0:Value)]:Array Value)[j]? =some u:=hu
 match j,hu with
 | 0,hu=>exact ⟨_,_,_,(aTA hu).symm⟩
 | j+1,hu=>simp at hu
end
end Go.Proofs.YtmeeljmapailnaaGreat
namespace Go.Proofs.YtmeeljmapailnaaGreat.Mark
open Tryz
open Go.Proofs.YtmeeljmapailnaaGreat.ey

abbrev de:=BitVec 64
abbrev W:=BitVec 64
def xs (k:Nat) (x:de):de:=x ^^^ x >>> k
def c1:de:=13787848793156543929#64
def c2:de:=10723151780598845931#64
def WS:de:=11400714819323198485#64
def mix (n:de):de:=xs 31 (xs 27 (xs 30 (n+WS) * c1) * c2)
def down (k:Nat) (x:de):de:=xs (2 * k) (xs k x)
def IY (x y:de):de:=y * (2#64 - x * y)
def other (x:de):de:=IY x (IY x (IY x (IY x (IY x (IY x x)))))
def back (n:de):de:=down 30 (down 27 (down 31 n * other c2) * other c1) - WS
section
variable (f:de→de)
def SI (m n:de):de:=m ^^^ f n
def y6 (l:List de) (m:de):de:=l.foldl (SI f) m
def Gb (l:List de):de:=y6 f l 0#64
theorem aqD (l:List de) (x:de) (m:de):y6 f (l++ [x]) m=SI f (y6 f l m) x:=by unfold y6;rw [aUR];rfl
end
end Go.Proofs.YtmeeljmapailnaaGreat.Mark
namespace Go.Proofs.YtmeeljmapailnaaGreat
open Tryz
end Go.Proofs.YtmeeljmapailnaaGreat
namespace Go.Proofs.YtmeeljmapailnaaGreat.Mark
open Tryz
open Go.RowKit Go.Proofs.YtmeeljmapailnaaGreat.ey

theorem Nj {a b:Int} (h:a=b):Ending.returned (.int .u64 a)= .returned (.int .u64 b):=by rw [h]

theorem aaN (x:Int):IntKind.u64.wrap x=U (BitVec.ofInt 64 x):=by
 refine Qk ?_ ?_ (aCH x)
 ·rw [aUW];omega
 ·rw [aUW];omega
theorem aqB (a:de):IntKind.u64.wrap (U a+11400714819323198485)=U (a+WS):=by
 rw [aaN,aCz,vX];rfl
theorem aCb (a:de):IntKind.u64.wrap (U a * 13787848793156543929)=U (a * c1):=by
 rw [aaN,akk,vX];rfl
theorem aCc (a:de):IntKind.u64.wrap (U a * 10723151780598845931)=U (a * c2):=by
 rw [aaN,akk,vX];rfl
theorem aaQ (k:Nat) (a:de):bits BinOp.xor IntKind.u64 (U a) (U a / 2 ^ k)=U (xs k a):=by
 refine Qk (Vc _ _ _) (Vb _ _ _) ?_;rw [Zf,akm (n:=64) (U a) k (UT a) (by have:=aqu a;omega),vX];rfl
theorem aH4 (a:de):bits BinOp.xor IntKind.u64 (U a) (U a / 1073741824)=U (xs 30 a):=aaQ 30 a
theorem aH3 (a:de):bits BinOp.xor IntKind.u64 (U a) (U a / 134217728)=U (xs 27 a):=aaQ 27 a
theorem aH5 (a:de):bits BinOp.xor IntKind.u64 (U a) (U a / 2147483648)=U (xs 31 a):=aaQ 31 a
theorem Y6 (x:Int) (n:de) (hx:x=U n) (w:World):
  Calls prog 157 #[.int .u64 x] w fun e w'=>e= .returned (.int .u64 (U (mix n)))∧w=w':=by
 subst hx;go_enter func157,ntmps157;go_wp2
 go_ret;refine ⟨Nj ?_,Z⟩;rw [aqB,aH4,aCb,aH3,aCc,aH5];rfl

end Go.Proofs.YtmeeljmapailnaaGreat.Mark
namespace Go.Proofs.YtmeeljmapailnaaGreat
open Tryz
end Go.Proofs.YtmeeljmapailnaaGreat
namespace Go.Proofs.YtmeeljmapailnaaGreat.Mark
open Tryz
open Go.RowKit Go.Proofs.YtmeeljmapailnaaGreat.ey


theorem NC (x y:Int) (m n:de) (hx:x=U m) (aF:y=U n) (w:World):
  Calls prog 158 #[.int .u64 x, .int .u64 y] w fun e w'=>e= .returned (.int .u64 (U (SI mix m n)))∧w=w':=by
 subst hx aF;go_enter func158,ntmps158;go_wp2_with (go_at_call 157;refine (Y6 _ n rfl _).mono ?_;rintro e w' ⟨rfl,rfl⟩)
 go_ret;exact ⟨Nj (by refine Qk (Vc _ _ _) (Vb _ _ _) ?_;rw [Zf,vX,vX];rfl),Z⟩
def ES (w:World) (a:Option Addr) (n:Nat) (zs:List de):Prop :=
 n=zs.length∧n≤9223372036854775807∧(zs= []∨∃ b off,a=some ⟨b,off,none⟩∧∀ i (h:i<zs.length),w.cell? ⟨b,off+i,none⟩=some (.int .u64 (U zs[i])))

def EW (ra:List (List de)) (m:de):de:=ra.foldl (fun m l=>y6 mix l m) m
theorem aqG (ra:List (List de)) (l:List de) (m:de):EW (ra++ [l]) m=y6 mix l (EW ra m):=by unfold EW;rw [aUR];rfl
theorem al3 {α:Type} (l:List α) (k:Nat) (h:k<l.length):l.take (k+1)=l.take k++ [l[k]]:=aT5 h

theorem aqE (b c:Nat) (vs:List (Option Addr×Nat×Nat)) (ra:List (List de)) (w:World) (hn:vs.length=ra.length) (hc:c≤100) (hcv:vs.length≤100)
  (jJ:∀ i (h:i<vs.length),w.cell? ⟨b,i,none⟩=some (.slice vs[i].1 vs[i].2.1 vs[i].2.2)) (uj:∀ i (h:i<vs.length) (c7:i<ra.length),ES w vs[i].1 vs[i].2.1 ra[i]):
  Calls prog 125 #[.slice (some ⟨b,0,none⟩) vs.length c] w fun e w'=>e= .returned (.int .u64 (U (EW ra 0#64)))∧w=w':=by
 obtain ⟨N,eJ⟩:∃ N,Hid (N=vs.length):=⟨_,aTG rfl⟩;have Az:=aTG jJ;have gb:=aTG uj;have qB:=aTG hn;rw [← eJ.out] at hcv ⊢;clear jJ uj hn;go_enter func125,ntmps125;go_wp2
 go_loop [3,10] (fun v i=>∃ k:Nat,k≤N∧i= .int .i64 k∧v= .int .u64 (U (EW (ra.take k) 0#64))) (fun _ i=>N - (intOf i).toNat)
 case atStart=>exact ⟨0,aUv _,rfl,rfl⟩
 case round =>
  obtain ⟨k,au,rfl,rfl⟩:=hrel;by_cases bA:k<N
  ·have agQ:k<vs.length:=by have:=eJ.out;omega
   have agR:k<ra.length:=by have:=qB.out;omega
   have τ:=Az.out k agQ;have ae:=gb.out k agQ agR;obtain ⟨l,ab3⟩:∃ l,Hid (ra[k]=l):=⟨_,aTG rfl⟩;rw [ab3.out] at ae;generalize vs[k].1=a at τ ae;generalize vs[k].2.1=n at τ ae;generalize vs[k].2.2=bX at τ ae;obtain ⟨aw,aU,bz⟩:=ae;have i_:=aTG aw;clear aw;generalize n2:EW (ra.take k) 0#64=M;have Li:EW (ra.take (k+1)) 0#64=y6 mix l M:=by rw [al3 _ _ agR,aqG,n2,ab3.out]
   have k8:=aTG Li;clear n2 Li;rcases bz with lF | ⟨pG,off,rfl,rN⟩
   ·have ag4:n=0:=by rw [i_.out,lF];rfl
    have aoN:=aTG lF;subst ag4;clear lF;go_wp2_with fail
    refine wp_loop_rounds 1 ?_;rw [rounds_succ];go_wp2_with fail
    go_round
    case rel=>exact ⟨k+1,by omega,by go_num,by rw [k8.out,aoN.out];rfl⟩
    case measure=>simp [intOf];omega
   ·have aoG:=aTG rN;clear rN;go_wp2_with fail
    go_loop [3,16] (fun v i=>∃ q:Nat,q≤n∧i= .int .i64 q∧v= .int .u64 (U (y6 mix (l.take q) M))) (fun _ i=>n - (intOf i).toNat)
    case atStart=>exact ⟨0,aUv _,rfl,rfl⟩
    case round =>
     obtain ⟨q,I,rfl,rfl⟩:=hrel;by_cases aOb:q<n
     ·have aht:q<l.length:=by have:=i_.out;omega
      have axK:=aoG.out q aht;generalize xq:l[q]=z at axK;generalize afW:y6 mix (l.take q) M=M2;have G9:=aTG (show y6 mix (l.take (q+1)) M=SI mix M2 z by rw [al3 _ _ aht,aqD,afW,xq]);clear xq afW τ;go_wp2_with (go_at_call 158;(with_reducible refine (NC _ _ M2 z rfl rfl _).mono ?_);rintro e w' ⟨rfl,rfl⟩)
      go_round
      case rel=>exact ⟨q+1,by omega,by go_num,by rw [G9.out]⟩
      case measure=>simp [intOf];omega
     ·have azd:n=q:=by omega
      subst azd;have aC:l.take n=l:=aT0 (by have:=i_.out;omega);rw [aC,← k8.out];clear aC τ;go_wp2_with fail
      go_round
      case rel=>exact ⟨k+1,by omega,by go_num,rfl⟩
      case measure=>simp [intOf];omega
  ·have XW:N=k:=by omega
   subst XW;have e:ra.take N=ra:=aT0 (by have:=qB.out;have:=eJ.out;omega);rw [e];clear e;go_wp2_with fail
   go_ret;exact ⟨Z,Z⟩

theorem ES.later {w w':World} {a:Option Addr} {n:Nat} {zs:List de} (h:ES w a n zs) (γ:Below w.heap.size w w'):ES w' a n zs:=by
 obtain ⟨τ,ae,aw⟩:=h;refine ⟨τ,ae, ?_⟩;rcases aw with aw | ⟨b,off,ha,hc⟩
 ·exact .inl aw
 ·refine .inr ⟨b,off,ha,fun i ar=> ?_⟩;rw [γ.cell (aVG w _ (hc i ar))];exact hc i ar

theorem aqF (b n c:Nat) (a:Option Addr) (l:List de) (w:World) (h:w.cell? ⟨b,0,none⟩=some (.slice a n c)) (hs:ES w a n l):
  Calls prog 125 #[.slice (some ⟨b,0,none⟩) 1 1] w fun e w'=>e= .returned (.int .u64 (U (Gb mix l)))∧w=w':=by
 refine (aqE b 1 [(a,n,c)] [l] w Z (by decide) (by simp) ?_ ?_).mono fun e w' h=>h
 ·intro i ar
  match i,ar with
  | 0,_=>exact h
 ·intro i ar _
  match i,ar with
  | 0,_=>exact hs
theorem Zc (a:Option Addr) (n c:Nat) (l:List de) (w:World) (hs:ES w a n l):
  Calls prog 87 #[.slice a n c] w fun e w'=>e= .returned (.int .u64 (U (Gb mix l)))∧Below w.heap.size w w':=by
 have γ:=(aUb w.heap.size w).alloc (aTK _) (.cells #[.slice a n c] 92);have gM:=hs.later γ;go_enter func87,ntmps87;go_wp2_with fail
 refine (aqF _ n c a l _ (by simp [aVU]) gM).mono ?_;rintro e w' ⟨rfl,rfl⟩;go_wp2_with fail
 go_ret;exact ⟨Z,γ⟩

end Go.Proofs.YtmeeljmapailnaaGreat.Mark
namespace Go.Proofs.YtmeeljmapailnaaGreat
open Tryz
end Go.Proofs.YtmeeljmapailnaaGreat
namespace Go.Proofs.YtmeeljmapailnaaGreat.Tree
open Tryz
open Go.Proofs.YtmeeljmapailnaaGreat.ey Go.Proofs.YtmeeljmapailnaaGreat.Mark

def DI (s:List UInt8):de:=s.foldl (fun m b=>mix (m ^^^ BitVec.ofNat 64 b.toNat)) (mix (BitVec.ofNat 64 s.length))
def aEr (b:de):de:=b <<<32 ||| b >>> 32
def I8 (a b:de):de:=mix (mix (a ^^^ aEr b ^^^ 1#64) ^^^ b)
def lX (n:Nat):Nat:=2 ^ Nat.log2 (n - 1)
def ZL:Nat→List (List UInt8)→de
 | 0,_=>0#64
 | f+1,l=>match l with
  | []=>0#64
  | [s]=>DI s
  | a::b::r=>I8 (ZL f ((a::b::r).take (lX (r.length+2)))) (ZL f ((a::b::r).drop (lX (r.length+2))))
def Sp (l:List (List UInt8)):de:=ZL l.length l
end Go.Proofs.YtmeeljmapailnaaGreat.Tree
namespace Go.Proofs.YtmeeljmapailnaaGreat
open Tryz
end Go.Proofs.YtmeeljmapailnaaGreat
namespace Go.Proofs.YtmeeljmapailnaaGreat.Tree
open Tryz
open Go.RowKit Go.Proofs.YtmeeljmapailnaaGreat Go.Proofs.YtmeeljmapailnaaGreat.ey Go.Proofs.YtmeeljmapailnaaGreat.Mark

theorem aH0 (a b:de):bits .xor .u64 (U a) (U b)=U (a ^^^ b):=by
 refine Qk (Vc _ _ _) (Vb _ _ _) ?_;rw [Zf,vX,vX]
theorem aAV (l:List UInt8) (n:Nat) (b:UInt8) (m:de):(l++ [b]).foldl (fun m b=>mix (m ^^^ BitVec.ofNat 64 b.toNat)) m=mix (l.foldl (fun m b=>mix (m ^^^ BitVec.ofNat 64 b.toNat)) m ^^^ BitVec.ofNat 64 b.toNat):=by rw [aUR];rfl
def upto (s:ByteArray) (k:Nat):de:=(s.data.toList.take k).foldl (fun m b=>mix (m ^^^ BitVec.ofNat 64 b.toNat)) (mix (BitVec.ofNat 64 s.size))
theorem aGS (s:ByteArray) (k:Nat) (h:k<s.size):upto s (k+1)=mix (upto s k ^^^ BitVec.ofNat 64 s[k].toNat):=by
 unfold upto;have au:k<s.data.toList.length:=by simpa using h
 rw [aT5 au,aAV _ k];rfl
theorem aGR (s:ByteArray):upto s s.size=DI s.data.toList:=by
 unfold upto DI;rw [aT0 (by simp)];rfl
theorem acw (n:Nat) (h:n<18446744073709551616):((n:Nat):Int)=U (BitVec.ofNat 64 n):=by
 unfold U;rw [aVn,aU0 h]
theorem II (s:ByteArray) (hs:s.size≤9223372036854775807) (w:World):Calls prog 124 #[.string s] w fun e w'=>e= .returned (.int .u64 (U (DI s.data.toList)))∧∃ q,w'=w.drewN q:=by
 have aK:upto s 0=mix (BitVec.ofNat 64 s.size):=rfl;have QO:=acw s.size (by omega);have hm:=Y6 _ (BitVec.ofNat 64 s.size) QO;have dD:=aTG (aGR s);rw [← aK] at hm;have wG:=aTG aK;have hw:IntKind.u64.wrap (s.size:Int)=(s.size:Int):=by rw [aUW];omega
 clear QO aK;go_enter func124,ntmps124;go_wp2_with fail
 refine (hm _).mono ?_;rintro e w' ⟨rfl,rfl⟩;clear hw;go_wp2_with fail
 go_loop [3,11] (fun m i=>∃ k:Nat,k≤s.size∧i= .int .i64 (k:Int)∧m= .int .u64 (U (upto s k))) (fun _ i=>s.size - (intOf i).toNat)
 case atStart=>exact ⟨0,aUv _,rfl,rfl⟩
 case round =>
  obtain ⟨k,au,rfl,rfl⟩:=hrel;by_cases bA:k<s.size
  ·have Yh:=aGS s k bA;have hx:=aH0 (upto s k) (BitVec.ofNat 64 s[k].toNat);rw [← acw s[k].toNat (by have:=s[k].toNat_lt;omega)] at hx;have hm:=Y6 _ (upto s k ^^^ BitVec.ofNat 64 s[k].toNat) rfl;rw [← Yh] at hm;have gb:=aTG Yh;clear Yh;have aOo:IntKind.u64.wrap (s[k].toNat:Int)=(s[k].toNat:Int):=by have:=s[k].toNat_lt;rw [aUW];omega
   obtain ⟨qU,G9⟩:∃ qU,Hid (upto s (k+1)=qU):=⟨_,aTG rfl⟩;rw [G9.out] at hm;clear gb;generalize upto s k ^^^ BitVec.ofNat 64 s[k].toNat=x at *
   generalize upto s k=dy at *
   go_wp2_with fail
   refine (hm _).mono ?_;rintro e w' ⟨rfl,rfl⟩;go_wp2_with fail
   go_round
   case rel=>exact ⟨k+1,by omega,by go_num,by rw [G9.out]⟩
   case measure=>simp [intOf];omega
  ·obtain rfl:k=s.size:=by omega
   rw [dD.out];go_wp2_with fail
   go_ret;exact ⟨Z,0,Z⟩
def ar9 (l:List ByteArray):List Value:=l.map Value.string
def lists (l:List ByteArray):List (List UInt8):=l.map fun s=>s.data.toList
def aKK (l:List ByteArray):Prop:=∀ s∈l,s.size≤9223372036854775807
end Go.Proofs.YtmeeljmapailnaaGreat.Tree
namespace Go.Proofs.YtmeeljmapailnaaGreat
open Tryz
end Go.Proofs.YtmeeljmapailnaaGreat
namespace Go.Proofs.YtmeeljmapailnaaGreat.Pack
open Tryz
open Go.Proofs.YtmeeljmapailnaaGreat.ey
def ki:Nat→Nat→List UInt8
  | 0,n=> [UInt8.ofNat n]
  | k+1,n=>if n<128 then [UInt8.ofNat n] else UInt8.ofNat (n % 128+128)::ki k (n / 128)
def en (n:Nat):List UInt8:=ki 9 n
def val:List UInt8→Nat
  | []=>0
  | b::l=>b.toNat % 128+128 * val l

theorem BT {k n:Nat} (h:n<128):ki k n= [UInt8.ofNat n]:=by
  cases k with
  | zero=>rfl
  | succ k=>unfold ki;rw [aTO h]
theorem BS {k n:Nat} (h:¬ n<128):ki (k+1) n=UInt8.ofNat (n % 128+128)::ki k (n / 128):=by
  rw [ki];rw [aTL h]
theorem Zr (k n:Nat):(ki k n).length≤k+1∧1≤(ki k n).length:=by
  induction k generalizing n with
  | zero=>simp [ki]
  | succ k bK =>
    by_cases h:n<128
    · rw [BT h];simp
    · rw [BS h];have:=bK (n / 128);simp;omega
theorem BU (n:Nat):(en n).length≤10∧1≤(en n).length:=Zr 9 n

theorem I_ {n k:Nat} (h:n<128 ^ (k+2)):n / 128<128 ^ (k+1):=by
  rw [aWL] at h;exact Nat.div_lt_of_lt_mul (by rw [aUU];exact h)
theorem aGZ (k n:Nat) (h:n<128 ^ (k+1)):val (ki k n)=n:=by
  induction k generalizing n with
  | zero =>
    have τ:n<128:=by simpa using h
    simp only [ki,val,aUG];omega
  | succ k bK =>
    by_cases τ:n<128
    · rw [BT τ]
      simp only [val,aUG];omega
    · rw [BS τ]
      simp only [val,aUG];rw [bK (n / 128) (I_ h)];omega
theorem FY {n:Nat} (h:n<18446744073709551616):n<128 ^ (9+1):=aVl h (by decide)
theorem aG0 (n:Nat) (h:n<18446744073709551616):val (en n)=n:=aGZ 9 n (FY h)
theorem aDL (k n i:Nat) (hn:n<128 ^ (k+1)) (h:i+1<(ki k n).length) (ar:i<(ki k n).length):128≤((ki k n)[i]).toNat:=by
  induction k generalizing n i with
  | zero=>simp [ki] at h
  | succ k bK =>
    by_cases τ:n<128
    · simp [BT τ] at h
    · simp only [BS τ] at h ar ⊢
      cases i with
      | zero=>simp only [aWN,aUG];omega
      | succ i =>
        simp only [aWO];exact bK (n / 128) i (I_ hn) (by simpa using h) (by simpa using ar)
theorem akS (k n:Nat) (hn:n<128 ^ (k+1)) (i:Nat) (ar:i<(ki k n).length) (aC:i+1=(ki k n).length):((ki k n)[i]).toNat<128:=by
  induction k generalizing n i with
  | zero =>
    have τ:n<128:=by simpa using hn
    simp only [ki,aYk,aUG];omega
  | succ k bK =>
    by_cases τ:n<128
    · simp only [BT τ,aYk,aUG]
      omega
    · simp only [BS τ] at aC ar ⊢
      cases i with
      | zero =>
        have ae:=(Zr k (n / 128)).2;rw [aTI] at aC;omega
      | succ i =>
        simp only [aWO];exact bK (n / 128) (I_ hn) i (by simpa using ar) (by simpa using aC)
theorem aG1 (l:List UInt8) (b:UInt8):val (l++ [b])=val l+128 ^ l.length * (b.toNat % 128):=by
  induction l with
  | nil=>simp [val]
  | cons x l bK =>
    simp only [aVD,val,bK,aTI,aWL];rw [Nat.mul_add,← Nat.mul_assoc,aUU 128 (128 ^ l.length)];omega
theorem aGY (l:List UInt8):val l<128 ^ l.length:=by
  induction l with
  | nil=>simp [val]
  | cons x l bK =>
    simp only [val,aTI,aWL];omega
def J7 (l:List UInt8) (n:Nat) (rest:List UInt8) (e:Int):Prop :=
  (∃ k,k<10∧k<l.length∧(∀ i (h:i<l.length),i<k→128≤l[i].toNat)∧(∀ h:k<l.length,l[k].toNat<128)∧
    ((en (val (l.take (k+1)) % 18446744073709551616)=l.take (k+1)∧n=val (l.take (k+1)) % 18446744073709551616∧rest=l.drop (k+1)∧e=0)∨
     (en (val (l.take (k+1)) % 18446744073709551616)≠l.take (k+1)∧n=0∧rest= []∧e=4)))∨
  (l.length<10∧(∀ i (h:i<l.length),128≤l[i].toNat)∧n=0∧rest= []∧e=3)∨
  (10≤l.length∧(∀ i (h:i<l.length),i<10→128≤l[i].toNat)∧n=0∧rest= []∧e=4)
def oT (x:Int):Nat:=if 0≤x then (2 * x).toNat else (-2 * x - 1).toNat
end Go.Proofs.YtmeeljmapailnaaGreat.Pack
namespace Go.Proofs.YtmeeljmapailnaaGreat
open Tryz
end Go.Proofs.YtmeeljmapailnaaGreat
namespace Go.Proofs.YtmeeljmapailnaaGreat.Pack
open Tryz
open Go.RowKit Go.Proofs.YtmeeljmapailnaaGreat.ey

theorem aAd:(prog.info? 5).map (fun i=>(i.zero,i.size,i.bytes))=some (some (.int .u8 0),1,1):=by kernel_rfl
def cells (l:List UInt8):List Value:=l.map fun b=>Value.int .u8 (b.toNat:Int)
theorem adl (l:List UInt8) (b:UInt8):cells (l++ [b])=cells l++ [Value.int .u8 (b.toNat:Int)]:=by unfold cells;simp
theorem asb (l:List UInt8) (i:Nat) (h:i<l.length):(cells l)[i]? =some (.int .u8 (l[i].toNat:Int)):=by unfold cells;simp [h]
def strOf (l:List UInt8):ByteArray:=⟨l.toArray⟩
theorem Jl (l:List UInt8):(strOf l).size=l.length:=by
 show l.toArray.size=_;simp
theorem yd (l:List UInt8):(strOf l).data.toList=l:=rfl

theorem aCM (n:Nat):bits BinOp.or IntKind.u8 ((n:Int) % 256) 128=(((UInt8.ofNat (n % 128+128)).toNat:Nat):Int):=by
 have e:((n:Int) % 256)=((n % 256:Nat):Int):=by omega
 have τ:n % 256<256:=aVI _ (by decide);have key:∀ x:Fin 256,(x.val ||| 128)=x.val % 128+128:=by decide +kernel
 have ae:=key ⟨n % 256,τ⟩;simp only at ae;rw [e,show (128:Int)=((128:Nat):Int) from rfl,(aXL .u8 8 (by decide) wraps_u8 _ _ (by omega) (by decide)).2,ae];simp only [aUG];omega

theorem asx (w:World) (base g n cap:Nat) (l:List UInt8) (hn:n=l.length) (h:w.ownsRow base 5 1 (.slice (some ⟨g,0,none⟩) n cap) n (cells l)):
  (convert 263 9 (.slice (some ⟨g,0,none⟩) n cap)).run prog w= .ok (.string (strOf l)) w:=by
 subst hn;refine aYB (P:=prog) w 263 9 5 ⟨g,0,none⟩ cap l underlying263 underlying5 underlying9 ?_;intro j aA;rw [acy,h.cellAt j (by omega),asb l j aA]

theorem Se (n:Nat) (hn:n<18446744073709551616) (x:Int) (hx:x=n) (w:World):
  Calls prog 153 #[.int .u64 x] w fun e w'=>e= .returned (.string (strOf (en n)))∧Below w.heap.size w w':=by
 subst hx;obtain ⟨i0,ar,oa,mf,o1⟩:=aV0 aAd;have eJ:=aTG (FY hn);clear hn;go_enter func153,ntmps153;go_wp2_with fail
 go_loopw [0,3] (fun x v wr=>∃ (k m:Nat) (acc:List UInt8),k≤9∧x= .int .u64 (m:Int)∧Hid (m<128 ^ (k+1))∧Hid (acc++ki k m=en n)∧wr.ownsRow w.heap.size 5 1 v acc.length (cells acc)∧Below w.heap.size w wr) (fun x _ _=>(intOf x).toNat)
 case atStart=>exact ⟨9,n, [],aTK _,rfl,eJ,rfl,World.ownsRow_nil _ _ _ _,aUb _ _⟩
 case round =>
  obtain ⟨k,m,acc,au,rfl,k8,jD,eT,γ⟩:=hrel;by_cases bA:128≤m
  ·obtain ⟨k',rfl⟩:∃ k',k=k'+1:=by
    cases k with
    | zero=>have:=k8.out;simp at this;omega
    | succ k'=>exact ⟨k',rfl⟩
   obtain ⟨b,aZ⟩:∃ b,Hid (b=UInt8.ofNat (m % 128+128)):=⟨_,aTG rfl⟩;have Rj:=aCM m;rw [← aZ.out] at Rj;have wH:Hid ((acc++ [b])++ki k' (m / 128)=en n):=by
    show _=_;rw [← jD.out,BS (by omega),← aZ.out,aTX];rfl
   have G9:Hid (m / 128<128 ^ (k'+1)):=I_ k8.out;have axn:acc.length≤9:=by
    have τ:=(BU n).1;have ae:=aUF List.length wH.out;have aw:=(Zr k' (m / 128)).2;simp at ae;omega
   have LF:=γ.alloc γ.size (.cells #[.int .u8 (b.toNat:Int)] 5);go_wp2_with (at_builtin;refine wpList_append_own _ rfl _ _ 263 rfl w.heap.size 5 i0 (.int .u8 0) 1 1 underlying263 ar oa mf o1 rfl (by decide) _ acc.length (cells acc) rfl (eT.alloc _) ⟨wr.heap.size,0,none⟩ 1 1 [.int .u8 (b.toNat:Int)] rfl rfl ?d1 ?d2 ?d3 ?d4 ?d5 ?_)
   case d1 =>
    intro j u aA
    match j,aA with
    | 0,aA=>simp at aA;subst aA;simp [Addr.add]
   case d2=>intro u hu;simp at hu;subst hu;rfl
   case d3=>unfold maxLen;omega
   case d4=>omega
   case d5=>have:=γ.size;simp;omega
   intro v' aS xC iU _;have c8:=LF.grown iU (by have:=γ.size;simp;omega) (fun q I=>(eT.lt q I).1);rw [← adl,show acc.length+1=(acc++ [b]).length by simp] at xC;clear iU eT LF γ;go_wp2_with fail
   go_roundw
   case rel=>exact ⟨k',m / 128,acc++ [b],by omega,by go_num,G9,wH,xC,c8⟩
   case measure=>simp [intOf];omega
  ·have ha:acc++ [UInt8.ofNat m]=en n:=by rw [← jD.out,BT (by omega)]
   have agY:(UInt8.ofNat m).toNat=m:=by rw [aUG];omega
   have axn:acc.length≤9:=by
    have τ:=(BU n).1;have ae:=aUF List.length ha;simp at ae;omega
   have aoy:=aTG agY;have wH:=aTG ha;have LF:=γ.alloc γ.size (.cells #[.int .u8 (m:Int)] 5);clear ha agY;go_wp2_with (at_builtin;refine wpList_append_own _ rfl _ _ 263 rfl w.heap.size 5 i0 (.int .u8 0) 1 1 underlying263 ar oa mf o1 rfl (by decide) _ acc.length (cells acc) rfl (eT.alloc _) ⟨wr.heap.size,0,none⟩ 1 1 [.int .u8 (m:Int)] rfl rfl ?c1 ?c2 ?c3 ?c4 ?c5 ?_)
   case c1 =>
    intro j u aA
    match j,aA with
    | 0,aA=>simp at aA;subst aA;simp [Addr.add]
   case c2=>intro u hu;simp at hu;subst hu;rfl
   case c3=>unfold maxLen;omega
   case c4=>omega
   case c5=>have:=γ.size;simp;omega
   intro v' aS xC iU _;have c8:=LF.grown iU (by have:=γ.size;simp;omega) (fun q I=>(eT.lt q I).1);have ags:cells acc++ [Value.int .u8 (m:Int)]=cells (en n):=by rw [← wH.out,adl,aoy.out]
   have hlen:acc.length+1=(en n).length:=by rw [← wH.out];simp
   rw [ags,hlen] at xC;have hex:∃ g cap,v'= .slice (some ⟨g,0,none⟩) (en n).length cap:=by
    rcases xC.2 with ⟨_,h⟩ | ⟨g,cap,cur,h,_⟩
    ·omega
    ·exact ⟨g,cap,h⟩
   obtain ⟨g,cap,hv⟩:=hex;rw [hv] at xC ⊢;have hcv:=asx aS _ g _ cap (en n) rfl xC;clear hv iU eT LF γ ags hlen xC;go_wp2_with fail
   go_ret;exact ⟨Z,c8⟩

theorem Nj {a b:Int} (h:a=b):Ending.returned (.int .u64 a)= .returned (.int .u64 b):=by rw [h]
theorem aH1 (n:Nat) (h:n<18446744073709551616):n ^^^ 18446744073709551615=18446744073709551615 - n:=by
 have e:(BitVec.ofNat 64 n ^^^ BitVec.allOnes 64).toNat=(~~~(BitVec.ofNat 64 n)).toNat:=by rw [aYN]
 rw [BitVec.toNat_xor,BitVec.toNat_not,aVn,BitVec.toNat_allOnes,aU0 h] at e;exact e
theorem avV (x:Int) (aK: -9223372036854775808≤x) (τ:x≤9223372036854775807) (w:World):
  Calls prog 155 #[.int .i64 x] w fun e w'=>e= .returned (.int .u64 (oT x))∧w=w':=by
 by_cases hx:0≤x
 ·go_enter func155,ntmps155;go_wp2
  go_ret;refine ⟨Nj ?_,Z⟩;have e:x / 9223372036854775808=((0:Nat):Int):=by omega
  obtain ⟨m,rfl⟩:=aVE hx;rw [e,show ((m:Int) * 2)=((m * 2:Nat):Int) by omega,u64_xor_nat _ _ (by omega) (by omega),Nat.xor_zero];unfold oT;rw [aTO hx];omega
 ·go_enter func155,ntmps155;go_wp2
  go_ret;refine ⟨Nj ?_,Z⟩;have o0:¬ 0≤x:=by omega
  have e:IntKind.u64.wrap (x / 9223372036854775808)=((18446744073709551615:Nat):Int):=by rw [aUW];omega
  have bb:IntKind.u64.wrap (IntKind.u64.wrap x * 2)=(((2 * x+18446744073709551616).toNat:Nat):Int):=by rw [aUW,aUW];omega
  rw [e,bb,u64_xor_nat _ _ (by omega) (by omega)];unfold oT;rw [aTL o0];have cP:(2 * x+18446744073709551616).toNat ^^^ 18446744073709551615=18446744073709551615 - (2 * x+18446744073709551616).toNat:=by
   exact aH1 _ (by omega)
  rw [cP];omega

theorem am7 (n:Int) (azR:0≤n) (h₁:n<2 ^ 64):IntKind.u64.wrap n=n:=by rw [aUW];omega
theorem aqH (b:UInt8):bits BinOp.and IntKind.u8 (b.toNat:Int) 127=((b.toNat % 128:Nat):Int):=by
 have h:=bits_mask .u8 8 (by decide) wraps_u8 7 (by decide) (b.toNat:Int) (aVN _) (by have:=b.toNat_lt;omega);simpa using h
theorem aae (l:List UInt8) (b:UInt8) (k:Nat) (au:k=l.length) (ayn:k≤9):
  bits BinOp.or IntKind.u64 ((val l % 18446744073709551616:Nat):Int) (((b.toNat % 128:Nat):Int) * 2 ^ (7 * k) % 18446744073709551616)=((val (l++ [b]) % 18446744073709551616:Nat):Int):=by
 subst au;have hp:(128:Nat) ^ l.length=2 ^ (7 * l.length):=by rw [show (128:Nat)=2 ^ 7 from rfl,← Nat.pow_mul]
 have hv:=aGY l;have hle:(128:Nat) ^ l.length≤128 ^ 9:=Nat.pow_le_pow_right (by decide) ayn;have IA:val l<18446744073709551616:=aVl hv (aUc hle (by decide));rw [aG1,aU0 IA,hp];have γ:b.toNat % 128<128:=aVI _ (by decide);generalize b.toNat % 128=d at *
 obtain ⟨r,hr⟩:∃ r,64=7 * l.length+r:=⟨64 - 7 * l.length,by omega⟩;have VK:18446744073709551616=2 ^ (7 * l.length) * 2 ^ r:=by rw [← Nat.pow_add,← hr]
 have aY:((d:Int) * 2 ^ (7 * l.length) % 18446744073709551616)=((2 ^ (7 * l.length) * (d % 2 ^ r):Nat):Int):=by
  rw [← Nat.mul_mod_mul_left,← VK,Int.natCast_emod,Int.natCast_mul,Int.natCast_pow,Int.mul_comm];rfl
 rw [hp] at hv;have ae:2 ^ (7 * l.length) * (d % 2 ^ r)<18446744073709551616:=by
  rw [VK];exact Nat.mul_lt_mul_of_pos_left (aVI _ (aWQ _)) (aWQ _)
 have bb:(val l+2 ^ (7 * l.length) * d) % 18446744073709551616=2 ^ (7 * l.length) * (d % 2 ^ r)+val l:=by
  rw [VK,Nat.mod_mul,Nat.add_mul_mod_self_left,aU0 hv,Nat.add_mul_div_left _ _ (aWQ _),aXF hv,aUX,aXt]
 rw [aY,bb,(aXL .u64 64 (by decide) am7 _ _ IA ae).2];rw [Nat.two_pow_add_eq_or_of_lt hv,Nat.or_comm]

theorem Ni {a a':Int} {b pG:ByteArray} {c bX:Int} (τ:a=a') (ae:b=pG) (aw:c=bX):Ending.returned (.tuple #[.int .u64 a, .string b, .int .i64 c])= .returned (.tuple #[.int .u64 a', .string pG, .int .i64 bX]):=by rw [τ,ae,aw]
def aou (l:List UInt8) (w:World) (e:Ending) (w':World):Prop :=
 ∃ (n:Nat) (rest:List UInt8) (k:Int),J7 l n rest k∧e= .returned (.tuple #[.int .u64 (n:Int), .string (strOf rest), .int .i64 k])∧Below w.heap.size w w'

theorem afB (s:ByteArray) (hs:s.size≤9223372036854775807) (w:World):Calls prog 120 #[.string s] w (aou s.data.toList w):=by
 go_enter func120,ntmps120;go_wp2_with fail
 go_loopw [5,6] (fun v i wr=>∃ k:Nat,k≤s.size∧k≤10∧i= .int .i64 k∧v= .int .u64 ((val (s.data.toList.take k) % 18446744073709551616:Nat):Int)∧Hid (∀ i (h:i<s.data.toList.length),i<k→128≤(s.data.toList[i]).toNat)∧Below w.heap.size w wr) (fun _ i _=>s.size - (intOf i).toNat)
 case atStart=>exact ⟨0,aUv _,aUv _,rfl,rfl,fun i h ae=>absurd ae (by omega),aUb _ _⟩
 case round =>
  obtain ⟨k,au,aNf,rfl,rfl,mA,γ⟩:=hrel;by_cases bA:k<s.size
  ·by_cases Dd:k<10
   ·have js:k<s.data.toList.length:=by simpa using bA
    have Yf:s[k]=s.data.toList[k]:=rfl;have hY:=aae (s.data.toList.take k) s[k] k (by simp;omega) (by omega);rw [Yf,← aT5 js,← Yf] at hY;have abO:bits BinOp.or IntKind.u64 ((val (s.data.toList.take k) % 18446744073709551616:Nat):Int) (IntKind.u64.wrap (IntKind.u64.wrap (bits BinOp.and IntKind.u8 (s[k].toNat:Int) 127) * 2 ^ (7 * k)))=((val (s.data.toList.take (k+1)) % 18446744073709551616:Nat):Int):=by
     rw [← hY,aqH,aUW,aUW];congr 3;omega
    obtain ⟨M',G8⟩:∃ M',Hid (val (s.data.toList.take (k+1)) % 18446744073709551616=M'):=⟨_,aTG rfl⟩;have Li:M'<18446744073709551616:=by rw [← G8.out];exact aVI _ (by decide)
    rw [G8.out] at abO;generalize val (s.data.toList.take k) % 18446744073709551616=M at abO ⊢;have aZ:=aTG Li;clear Yf hY Li;by_cases WU:128≤s[k].toNat
    ·go_wp2_with fail
     go_roundw
     case rel =>
      refine ⟨k+1,by omega,by omega,by go_num,by rw [G8.out], ?_,γ⟩;intro i h ar;by_cases lQ:i=k
      ·subst lQ;exact WU
      ·exact mA.out i h (by omega)
     case measure=>simp [intOf];omega
    ·have pX:k+1≤s.size:=bA;have ff:(0:Int)≤(k:Int)+1:=by omega
     have XR:(k:Int)+1≤(s.size:Int):=by omega
     have aym:IntKind.i64.wrap ((k:Int)+1)=(k:Int)+1:=IntWalk.i64_in _ (by omega);have aNg:((k:Int)+1).toNat=k+1:=by omega
     by_cases hp:en M'=s.data.toList.take (k+1)
     ·have I:((strOf (en M')).toList == (s.extract 0 (k+1)).toList)=true:=ac2 (Vh (by rw [yd,aWT,aWh,hp];rfl));have AH:=aTG hp;clear hp;go_wp2_with fail
      go_region_held3 (fun l0=>Below w.heap.size w l0) (first | exact γ.drew | exact γ.drew.trans (by assumption) | assumption) ((go_at_call 153;refine (Se M' aZ.out _ rfl _).mono ?_;rintro e w' ⟨rfl,bF⟩;have dZ:=γ.drew.trans (bF.mono γ.size)))
      clear γ bF I;go_wp2_with fail
      go_quiet (fail)
      go_wp2_with fail
      go_ret3
      refine ⟨M',s.data.toList.drop (k+1),0, .inl ⟨k,Dd,js,mA.out,fun _=>by have:=WU;show s[k].toNat<128;omega, .inl ⟨by rw [G8.out];exact AH.out,G8.out.symm,rfl,rfl⟩⟩,Ni Z (Vh ?_) Z,below_drewN (by assumption) _⟩;rw [yd,aWT,aT0 (by simp)]
     ·have I:((strOf (en M')).toList == (s.extract 0 (k+1)).toList)=false:=ac1 (fun h=>hp (by
       have ae:=aUF (fun x:ByteArray=>x.data.toList) h;simp only [yd,aWT,aWh] at ae;exact ae))
      have AH:=aTG hp;clear hp;go_wp2_with fail
      go_region_held3 (fun l0=>Below w.heap.size w l0) (first | exact γ.drew | exact γ.drew.trans (by assumption) | assumption) ((go_at_call 153;refine (Se M' aZ.out _ rfl _).mono ?_;rintro e w' ⟨rfl,bF⟩;have dZ:=γ.drew.trans (bF.mono γ.size)))
      clear γ bF I;go_wp2_with fail
      go_ret3
      exact ⟨0, [],4, .inl ⟨k,Dd,js,mA.out,fun _=>by have:=WU;show s[k].toNat<128;omega, .inr ⟨by rw [G8.out];exact AH.out,rfl,rfl,rfl⟩⟩,Ni Z Z Z,by assumption⟩
   ·have ayl:k=10:=by omega
    subst ayl;have hlen:¬ (s.size:Int)<10:=by omega
    go_wp2_with fail
    go_ret3
    exact ⟨0, [],4, .inr (.inr ⟨by simp;have e:s.data.size=s.size:=rfl;omega,fun i h ar=>mA.out i h ar,rfl,rfl,rfl⟩),Ni Z Z Z,γ⟩
  ·have Q7:k=s.size:=by omega
   have dD:∀ i (h:i<s.data.toList.length),i<k:=by
    intro i h;have e:s.data.toList.length=s.size:=by simp
    omega
   have e:s.data.toList.length=s.size:=by simp
   by_cases Dd:s.size<10
   ·have i_:=aTG e;have jD:=aTG dD;have ig:=aTG Q7;clear e dD Q7;have hlen:(s.size:Int)<10:=by omega
    have n9:(s.size:Int)≤(k:Int):=by omega
    go_wp2_with fail
    go_ret3
    exact ⟨0, [],3, .inr (.inl ⟨by have:=i_.out;omega,fun i h=>mA.out i h (jD.out i h),rfl,rfl,rfl⟩),Ni Z Z Z,γ⟩
   ·have i_:=aTG e;have jD:=aTG dD;have ig:=aTG Q7;clear e dD Q7;have hlen:¬ (s.size:Int)<10:=by omega
    have n9:(s.size:Int)≤(k:Int):=by omega
    go_wp2_with fail
    go_ret3
    exact ⟨0, [],4, .inr (.inr ⟨by have:=i_.out;omega,fun i h ar=>mA.out i h (jD.out i h),rfl,rfl,rfl⟩),Ni Z Z Z,γ⟩
end Go.Proofs.YtmeeljmapailnaaGreat.Pack
namespace Go.Proofs.YtmeeljmapailnaaGreat
open Tryz
end Go.Proofs.YtmeeljmapailnaaGreat
