import Derived.Test.YtmeeljmapailnaaGreatTroI
set_option linter.unusedVariables false
set_option linter.unusedSimpArgs false
set_option maxRecDepth 100000
set_option maxHeartbeats 4000000
open Go.RowKit
namespace Go.Proofs.YtmeeljmapailnaaGreat
open Tryz
abbrev aW0:=@List.contains_iff_mem
abbrev aW9:=@bne_eq_false_iff_eq
abbrev aXj:=@bne_iff_ne
section
theorem bO.aB6 {w aS:World} {aE:Nat} {a:ak.b_} {W:ak} {l:List bd} (h:bO w aE a W) (m:Mod (aa.aj a.T) w aS) (cr:bd.rep.aH 57 56 aS aE (aa.aj a.T) a.T a.t l):bO aS aE a {W with aq:=l}:=by
 have hn:=(aUu.1 h.apart).2.2;have d:∀ q∈aa.aj a.P++aa.aj a.B++aa.aj a.S++aa.aj a.M,q∉aa.aj a.T:=λ q I aJ=>hn q I q aJ rfl;exact ⟨h.P.mod m (λ q I=>d q (by simp [I])),h.B.mod m (λ q I=>d q (by simp [I])),h.S.mod m (λ q I=>d q (by simp [I])),h.M.mod m (λ q I=>d q (by simp [I])),cr,h.apart,h.nums⟩
theorem avZ {w:World} {aE:Nat} {a:ak.b_} {W:ak} (h:bO w aE a W):∀ q∈aa.aj a.P,q∉aa.aj a.T:=λ q I aJ=>(aUu.1 h.apart).2.2 q (by simp [I]) q aJ rfl
theorem aCa (w0:World) (a:ak.b_) (W:ak) (A:Option Addr) (c:Nat) (l:List dG) (w:World) (pP:bO w w0.heap.size a W) (aC:dG.rep.aG 24 w A c l) (Ij:0<l.length→∀ q∈aa.aj A,q∉aa.aj a.T) (FI:W.aq.length≤100000):
  Calls prog 61 #[.agg (ak.cells a W).toArray, .slice A l.length c] w (λ e w'=>∃ bL bX,e= .returned (.slice bL (W.lY l).2.length bX)∧bW.aH 3 8 w' w.heap.size (aa.aj bL) bL bX (W.lY l).2∧bO w' w0.heap.size a (W.lY l).1∧Mod (aa.aj a.T) w w'):=by
 refine (aFV w0 a W A c l w pP.P.has pP.T (avZ pP) aC Ij FI).mono ?_;rintro e w' ⟨bL,bX,rfl,τ,ae,aw⟩;exact ⟨bL,bX,Z,τ,pP.aB6 aw ae,aw⟩
theorem alW (W:ak) (l:List dG):(W.lY l).1.aq.length=W.aq.length:=(SF _).1
theorem aFW (a:ak.b_) (W:ak) (l:List dG):ak.cells a W=ak.cells a (W.lY l).1:=by
 unfold ak.cells;rw [alW];rfl
def r6 (W:ak) (l:List dG):Int:=if W.bn≠0 then W.bn else if 200<l.length then 2 else 0
noncomputable def kh (W:ak) (l:List dG):ak:=if r6 W l≠0 then ak.zero else (W.lY l).1
noncomputable def qV (W:ak) (l:List dG):List Int:=if r6 W l≠0 then [] else (W.lY l).2
theorem ajW {W:ak} {l:List dG} (h:¬ W.bn=0):r6 W l=W.bn∧kh W l=ak.zero∧qV W l= []:=by
 have e:r6 W l=W.bn:=by unfold r6;rw [aTO h]
 unfold kh qV;rw [e,aTO h,aTO h];exact ⟨Z,Z,Z⟩
theorem ajX {W:ak} {l:List dG} (h:W.bn=0) (aC:(200:Int)<(l.length:Int)):r6 W l=2∧kh W l=ak.zero∧qV W l= []:=by
 have e:r6 W l=2:=by unfold r6;rw [aTL (by omega),aTO (by omega)]
 unfold kh qV;rw [e];exact ⟨Z,Z,Z⟩
theorem RV {W:ak} {l:List dG} (h:W.bn=0) (aC:(l.length:Int)≤200):r6 W l=0∧kh W l=(W.lY l).1∧qV W l=(W.lY l).2:=by
 have e:r6 W l=0:=by unfold r6;rw [aTL (by omega),aTL (by omega)]
 unfold kh qV;rw [e];exact ⟨Z,Z,Z⟩
noncomputable def ak4 (g:dG):Nat→ak→Nat
 | 0,_=>0
 | n+1,W=>if (W.lY [g]).2.length=0 then 0 else ak4 g n (W.lY [g]).1+1
noncomputable def ak5 (g:dG):Nat→ak→ak
 | 0,W=>W
 | n+1,W=>if (W.lY [g]).2.length=0 then (W.lY [g]).1 else ak5 g n (W.lY [g]).1
def ak3 (W:ak) (id n:Int):Int:=if W.bn≠0 then W.bn else if n<0∨200<n then 1 else if am1 W (hq id)=false then 7 else 0
noncomputable def aR2 (W:ak) (id:Int) (bm:az) (n:Int):ak:=if ak3 W id n≠0 then ak.zero else ak5 ⟨id,⟨bm.x,bm.y⟩⟩ n.toNat W
noncomputable def aR1 (W:ak) (id:Int) (bm:az) (n:Int):Nat:=if ak3 W id n≠0 then 0 else ak4 ⟨id,⟨bm.x,bm.y⟩⟩ n.toNat W
theorem aB7 (a:ak.b_) (W:ak) (w:World) (b4:ak.Has w a W):
  Calls prog 60 #[.agg ((ak.cells a W).toArray)] w (λ e w'=>∃ a':ak.b_,e= .returned (.agg (ak.cells a' W).toArray)∧bO w' w.heap.size a' W∧Ext w w'):=by
 refine b' (n:=26) func60 Z Z Z ?_;refine ah<|ck Z Z Z Z λ cK bR bq dU ai=> ?_;have ba:=ab (Ext.bg w) bq;have ib:=ai.lt;refine al Z pN Z Z λ ea cC br gO ax=> ?_;have:=br.size;have bE:=ab ba br;have mi:=ax.lt;refine ag<|ah<|Φ (av qI Z)<|Φ (av xj Z)<| ?_;have ai:=ai.later br;refine Φ (ao Z (ai.one fV Z))<|ca Bb Z Z ((vn _ _ W.field.a8 _ (b4.P.keep bE)).mono ?_);rintro e ow ⟨wC,y_,rfl,wL,ayP,gD⟩;refine ⟨_,Z, ?_⟩;have:=gD.size;have fD:=ab bE gD;have m4:=b7 wL.lt;have nB:=dM wL.lt;refine Φ (av qI Z)<|Φ (av xj Z)<| ?_;have ai:=ai.later gD;refine fb Z Z ai Z xk Z Z λ wm p8 ai=> ?_;have:=p8.size;have jB:=Ext.mod fD p8 bC;refine ag<|ay<| ?_;refine cR [(1,0),(2,2),(4,0),(5,2),(7,3),(9,3)] [0,1,3,4,2,6,5,7,8,9] ?_;refine aB Z (λ _=>av rD Z)<|bx Z (λ _ x=>ao Z ((ai.later x).one vx Z))<|aB Z (λ _=>av t_ Z)<|bx Z (λ _ x=>ao Z ((ai.later x).one fV Z))<|gz Z Z Z λ q3 cX Q hK=>ca Wa Z Z ((PN _ _ W.a7 _ (b4.B.keep (ab jB cX))).mono ?_);rintro e B7 ⟨JS,KJ,rfl,wM,ayQ,kk⟩;refine ⟨_,Z,hK _ _ ⟨ab cX kk, ?_⟩⟩;have:=cX.size;have ie:=ab jB cX;have:=kk.size;have pq:=ab ie kk;have Ad:=b7 wM.lt;have um:=dM wM.lt;refine aB Z (λ _=>av rD Z)<|gz Z Z Z λ Eb j4 Q hK=>ca Bb Z Z ((vn _ _ W.bp _ (b4.S.keep (ab pq j4))).mono ?_);rintro e tj ⟨JT,KK,rfl,wN,ayR,fy⟩;refine ⟨_,Z,hK _ _ ⟨ab j4 fy, ?_⟩⟩;have:=j4.size;have pw:=ab pq j4;have:=fy.size;have kn:=ab pw fy;have NG:=b7 wN.lt;have rX:=dM wN.lt;have ai:=ai.later (ab cX (ab kk (ab j4 fy)));refine eg Z Z Z λ yl fh Q hK=>fb Z Z (ai.later fh) Z Wb Z Z λ Gz iF ai=>hK _ _ ?_;have:=fh.size;have ko:=ab kn fh;have:=iF.size;have q7:=Ext.mod ko iF bC;refine aB Z (λ _=>av t_ Z)<|eg Z Z Z λ Ai fL Q hK=>fb Z Z (ai.later fL) Z xk Z Z λ GA hQ ai=>hK _ _ ?_;have:=fL.size;have kH:=ab q7 fL;have:=hQ.size;have py:=Ext.mod kH hQ bC;refine fn λ q4 eP=> ?_;have:=eP.size;have iw:=ab py eP;refine aP<|ay<| ?_;refine cR [(1,0),(2,2),(4,0),(5,2),(7,3),(9,3)] [0,1,3,4,2,6,5,7,8,9] ?_;refine aB Z (λ _=>av zn Z)<| ?_;have ai:=ai.later eP;refine bx Z (λ _ x=>ao Z ((ai.later x).one fV Z))<|aB Z (λ _=>av ka Z)<|bx Z (λ _ x=>ao Z ((ai.later x).one lN Z))<|gz Z Z Z λ JA iJ Q hK=>ca Bb Z Z ((vn _ _ W.bM _ (b4.M.keep (ab iw iJ))).mono ?_);rintro e JD ⟨JU,vh,rfl,wO,ayS,iK⟩;refine ⟨_,Z,hK _ _ ⟨ab iJ iK, ?_⟩⟩;have:=iJ.size;have uJ:=ab iw iJ;have:=iK.size;have q_:=ab uJ iK;have aar:=b7 wO.lt;have uo:=dM wO.lt;refine aB Z (λ _=>av zn Z)<|gz Z Z Z λ aaF iv Q hK=>ca Wc Z Z ((PO _ _ W.aq _ (b4.T.keep (ab q_ iv))).mono ?_);rintro e JE ⟨JV,HB,rfl,AO,ayT,hC⟩;refine ⟨_,Z,hK _ _ ⟨ab iv hC, ?_⟩⟩;have:=iv.size;have GX:=ab q_ iv;have tD:=ab GX hC;have rY:=dM AO.lt;have ai:=ai.later (ab iJ (ab iK (ab iv hC)));refine eg Z Z Z λ amP qt Q hK=>fb Z Z (ai.later qt) Z xk Z Z λ B8 il ai=>hK _ _ ?_;have Oh:=ab tD qt;have nc:=Ext.mod Oh il bC;refine aB Z (λ _=>av ka Z)<|eg Z Z Z λ Tg hE Q hK=>fb Z Z (ai.later hE) Z K6 Z Z λ JF r5 ai=>hK _ _ ?_;have Am:=ab nc hE;have k4:=Ext.mod Am r5 bC;refine fn λ NR hG=> ?_;have yF:=ab k4 hG;refine aP<|ah<| ?_;have ai:=ai.later hG;refine Φ (ao Z (ai.all dA cm))<| ?_;have ax:=((((((((((ax.later gD).mod p8 aQ).later (ab cX (ab kk (ab j4 (ab fy fh))))).mod iF aQ).later fL).mod hQ aQ).later (ab eP (ab iJ (ab iK (ab iv (ab hC qt)))))).mod il aQ).later hE).mod r5 aQ).later hG;refine st (new:= [J W.field.wide,J W.field.high, .slice wC ((W.field.a8).length) y_, .slice JS ((W.a7).length) KJ, .slice JT ((W.bp).length) KK, .slice JU ((W.bM).length) vh, .slice JV ((W.aq).length) HB,J W.next,J W.now]) Z Z ax Z cm Z Z Z λ Tj o_ ax=> ?_;have An:=Ext.mod yF o_ bC;refine ag<|rt<|aV (.cell Z (ax.all dA cm) .nil)<| ?_;have wL:=((((((((((wL.mod p8 (bJ nB)).later (ab cX (ab kk (ab j4 (ab fy fh))))).mod iF (bJ nB)).later fL).mod hQ (bJ nB)).later (ab eP (ab iJ (ab iK (ab iv (ab hC qt)))))).mod il (bJ nB)).later hE).mod r5 (bJ nB)).later hG).mod o_ (bJ nB);have wM:=(((((((((wM.later (ab j4 (ab fy fh))).mod iF (bJ um)).later fL).mod hQ (bJ um)).later (ab eP (ab iJ (ab iK (ab iv (ab hC qt)))))).mod il (bJ um)).later hE).mod r5 (bJ um)).later hG).mod o_ (bJ um);have wN:=(((((((((wN.later fh).mod iF (bJ rX)).later fL).mod hQ (bJ rX)).later (ab eP (ab iJ (ab iK (ab iv (ab hC qt)))))).mod il (bJ rX)).later hE).mod r5 (bJ rX)).later hG).mod o_ (bJ rX);have wO:=(((((wO.later (ab iv (ab hC qt))).mod il (bJ uo)).later hE).mod r5 (bJ uo)).later hG).mod o_ (bJ uo);have AO:=(((((AO.later qt).mod il (bJ rY)).later hE).mod r5 (bJ rY)).later hG).mod o_ (bJ rY);have hR:=bO.Zb (aE:=w.heap.size) (wL.down (by omega)) (wM.down (by omega)) (wN.down (by omega)) (wO.down (by omega)) (AO.down (by omega)) (λ q τ ae=>by exfalso;(have:=um q τ;(have:=m4 q ae;omega))) (λ q τ ae=>by exfalso;(have:=rX q τ;(have:=m4 q ae;omega))) (λ q τ ae=>by exfalso;(have:=rX q τ;(have:=Ad q ae;omega))) (λ q τ ae=>by exfalso;(have:=uo q τ;(have:=m4 q ae;omega))) (λ q τ ae=>by exfalso;(have:=uo q τ;(have:=Ad q ae;omega))) (λ q τ ae=>by exfalso;(have:=uo q τ;(have:=NG q ae;omega))) (λ q τ ae=>by exfalso;(have:=rY q τ;(have:=m4 q ae;omega))) (λ q τ ae=>by exfalso;(have:=rY q τ;(have:=Ad q ae;omega))) (λ q τ ae=>by exfalso;(have:=rY q τ;(have:=NG q ae;omega))) (λ q τ ae=>by exfalso;(have:=rY q τ;(have:=aar q ae;omega))) b4.nums;exact ⟨⟨wC,JS,JT,JU,JV,y_,KJ,KK,vh,HB⟩,Z,hR,An⟩
theorem aB9 (a:ak.b_) (W:ak) (A:Option Addr) (c:Nat) (l:List dG) (w:World) (b4:ak.Has w a W) (aC:dG.rep.aG 24 w A c l):
  Calls prog 32 #[.agg ((ak.cells a W).toArray), .slice A l.length c] w (λ e w'=>∃ a' bL bX,e= .returned (.tuple #[.agg (ak.cells a' (kh W l)).toArray, .slice bL (qV W l).length bX,J (r6 W l)])∧bO w' w.heap.size a' (kh W l)∧bW.aH 3 8 w' w.heap.size (aa.aj bL) bL bX (qV W l)∧(∀ q∈aa.aj bL,q∉bO.cM a')∧Ext w w'):=by
 refine b' (n:=26) func32 Z Z Z ?_;refine ah<|ck Z Z Z Z λ cK bR bq dU ai=> ?_;have ba:=ab (Ext.bg w) bq;have ib:=ai.lt;refine al Z pN Z Z λ ea cC br gO ax=> ?_;have bE:=ab ba br;have mi:=ax.lt;refine va Z<|va Z<|ag<|ay<|ah<| ?_;have ai:=ai.later br;refine Φ (ao Z (ai.all dA cm))<|ca HN Z Z ((CY a W _ (b4.keep bE)).mono ?_);rintro e gJ ⟨rfl,eI⟩;refine ⟨_,Z, ?_⟩;have:=eI.size;have cJ:=ab bE eI;refine va Z<|ag<|ah<|vm Z<|Φ (bne Z Z)<|ag<| ?_;refine ee Z (λ lf=> ?_) (λ lf=> ?_)
 ·refine ah<|Φ (v:= .agg #[J 0,J 0, .slice none 0 0, .slice none 0 0, .slice none 0 0, .slice none 0 0, .slice none 0 0,J 0,J 0]) (cY Z (by kernel_rfl))<|vm Z<| ?_;have ax:=ax.later eI;refine st (new:= [J 0,J 0, .slice none 0 0, .slice none 0 0, .slice none 0 0, .slice none 0 0, .slice none 0 0,J 0,J 0]) Z Z ax Z cm Z Z Z λ B6 o7 ax=> ?_;have oA:=Ext.mod cJ o7 bC;refine va Z<|va Z<|ag<|rt<|bP<|aV (.cell Z (ax.all dA cm) (.tmp Z (.tmp Z .nil)))<| ?_;obtain ⟨aY,bb,cP⟩:=ajW (l:=l) lf;exact ⟨⟨none,none,none,none,none,0,0,0,0,0⟩,none,0,by rw [aY,bb,cP];rfl,by rw [bb];exact bO.zero _ _,by rw [cP];exact aa.aH.nil _,λ q I=>by simp [aa.aj] at I,oA⟩
 ·have bQ:=Good.BQ lf;have FI:=bQ.ek;refine bl<|ay<|ah<|vm Z<|Φ (cl underlying102 Z)<|Φ (hM Z Z)<|ag<| ?_;refine df Z (λ ub=> ?_) (λ ub=> ?_)
  ·refine ah<|Φ (v:= .agg #[J 0,J 0, .slice none 0 0, .slice none 0 0, .slice none 0 0, .slice none 0 0, .slice none 0 0,J 0,J 0]) (cY Z (by kernel_rfl))<| ?_;have ax:=ax.later eI;refine st (new:= [J 0,J 0, .slice none 0 0, .slice none 0 0, .slice none 0 0, .slice none 0 0, .slice none 0 0,J 0,J 0]) Z Z ax Z cm Z Z Z λ q2 BI ax=> ?_;have iM:=Ext.mod cJ BI bC;refine va Z<|va Z<|ag<|rt<|bP<|aV (.cell Z (ax.all dA cm) (.tmp Z (.tmp Z .nil)))<| ?_;obtain ⟨aY,bb,cP⟩:=ajX (l:=l) lf (by omega);exact ⟨⟨none,none,none,none,none,0,0,0,0,0⟩,none,0,by rw [aY,bb,cP];rfl,by rw [bb];exact bO.zero _ _,by rw [cP];exact aa.aH.nil _,λ q I=>by simp [aa.aj] at I,iM⟩
  ·refine bl<|ah<| ?_;have ai:=ai.later eI;refine Φ (ao Z (ai.all dA cm))<|ca atI Z Z ((aB7 a W _ (b4.keep cJ)).mono ?_);rintro e th ⟨a28,rfl,Kd,dO⟩;refine ⟨_,Z, ?_⟩;have:=dO.size;have iY:=ab cJ dO;have aGD:=b7 Kd.lt;have IJ:=dM Kd.lt;have ai:=ai.later dO;refine st Z Z ai Z cm Z Z Z λ Eb mW ai=> ?_;have:=mW.size;have pw:=Ext.mod iY mW bC;refine ag<|ah<|Φ (ao Z (ai.all dA cm))<|vm Z<| ?_;have Kd:=Kd.mod mW (bJ IJ);refine ca atJ Z Z ((aCa _ a28 W _ _ l _ Kd (aC.keep pw) (λ aK q I γ=>by have τ:=aC.aBm (by decide) aK q I;have ae:=IJ q (rF γ);omega) (by omega)).mono ?_);rintro e Gy ⟨ans,art,rfl,OY,Ul,F6⟩;refine ⟨_,Z, ?_⟩;have uF:=Ext.mod pw F6 (λ q I=>by have bc:=IJ q (rF I);omega);rw [aFW a28 W l] at ai;have ajG:=dM OY.lt;refine va Z<|ag<|ah<| ?_;have zd:∀ q∈aa.aj a28.T,q=bR→False:=λ q I γ=>by (have:=IJ q (rF I);omega)
   have ai:=ai.mod F6 (λ I=>zd _ I rfl);refine Φ (ao Z (ai.all dA cm))<|vm Z<| ?_;have ax:=(ax.later (ab eI dO)).mod mW aQ;have tW:∀ q∈aa.aj a28.T,q=cC→False:=λ q I γ=>by (have:=IJ q (rF I);omega)
   have ax:=ax.mod F6 (λ I=>tW _ I rfl);refine st Z Z ax Z cm Z Z Z λ S_ kU ax=> ?_;have uH:=Ext.mod uF kU bC;refine va Z<|va Z<|ag<|rt<|aV (.cell Z (ax.all dA cm) (.tmp Z (.tmp Z .nil)))<| ?_;have Ul:=Ul.mod kU (bJ IJ);have OY:=OY.mod kU (bJ ajG);obtain ⟨aY,bb,cP⟩:=RV (l:=l) lf (by omega);exact ⟨a28,ans,art,by rw [aY,bb,cP];rfl,by rw [bb];exact Ul.down (by omega),by rw [cP];exact OY.down (by omega),λ q I hf=>by (have:=ajG q I;(have:=aGD q hf;omega)),uH⟩
end
section
structure cG where
 kind:Int
 aW:Int
 spot:az
 what:Int
 deriving DecidableEq,Inhabited
namespace cG
def cells (a:cG):List Value:= [.int .i64 (a.kind), .int .i64 (a.aW), .int .i64 (a.spot.x), .int .i64 (a.spot.y), .int .i64 (a.what)]
def ok (a:cG):Prop:=(Lit.int .i64 a.kind).wf=true∧(Lit.int .i64 a.aW).wf=true∧(Lit.int .i64 a.spot.x).wf=true∧(Lit.int .i64 a.spot.y).wf=true∧(Lit.int .i64 a.what).wf=true
def raw (j:Nat) (u:Value):Prop:=match j with
 | 0=>∃ n:Int,u= .int .i64 n
 | 1=>∃ n:Int,u= .int .i64 n
 | 2=>∃ n:Int,u= .int .i64 n
 | 3=>∃ n:Int,u= .int .i64 n
 | 4=>∃ n:Int,u= .int .i64 n
 | _=>True
theorem ru (a:cG):∀ (j:Nat) u,a.cells[j]? =some u→raw j u:=by
 intro j u hu
 match j,hu with
 | 0,hu=>exact ⟨_,(aTA hu).symm⟩
 | 1,hu=>exact ⟨_,(aTA hu).symm⟩
 | 2,hu=>exact ⟨_,(aTA hu).symm⟩
 | 3,hu=>exact ⟨_,(aTA hu).symm⟩
 | 4,hu=>exact ⟨_,(aTA hu).symm⟩
 | j+5,hu=>exact trivial
theorem rr (a:cG):∀ u∈a.cells,u.oneCell'=true:=by
 intro u hu;unfold cells at hu;simp only [aTZ,aU8,aVV] at hu;rcases hu with rfl | rfl | rfl | rfl | rfl<;>rfl
def rep:aa cG:=aa.flat 5 cells ok raw (λ _=>rfl) rr ru
def zero:Value:= .agg #[.int .i64 0, .int .i64 0, .int .i64 0, .int .i64 0, .int .i64 0]
theorem ix:∀ (j:Nat) u,zero.cells[j]? =some u→rep.raw j u:=by
 intro j u hu;have hu:(#[(.int .i64 0:Value),(.int .i64 0:Value),(.int .i64 0:Value),(.int .i64 0:Value),(.int .i64 0:Value)]:Array Value)[j]? =some u:=hu
 match j,hu with
 | 0,hu=>exact ⟨_,(aTA hu).symm⟩
 | 1,hu=>exact ⟨_,(aTA hu).symm⟩
 | 2,hu=>exact ⟨_,(aTA hu).symm⟩
 | 3,hu=>exact ⟨_,(aTA hu).symm⟩
 | 4,hu=>exact ⟨_,(aTA hu).symm⟩
 | j+5,hu=>cases hu
theorem info:(prog.info? 153).map (λ i=>(i.zero,i.size,i.bytes))=some (some zero,5,40):=by kernel_rfl
def sh:gK:=(.cons (.int .i64) (.cons (.int .i64) (.cons (.cons (.int .i64) (.cons (.int .i64) .nil)) (.cons (.int .i64) .nil))))
end cG
theorem axB {w:World} {cs:List Value} {a:cG} (h:cG.rep.has w cs a):cs=a.cells:=aVP (show cs=a.cells∧a.ok from h)
end
section
def beside (a b:az):Bool:=c9 b.x (a.x - 1) (a.x+1) && c9 b.y (a.y - 1) (a.y+1)
namespace ak
def place (W:ak) (c:az):Nat:=(c.y * W.field.wide+c.x).toNat
def qG (t:bd) (n:Int):bd:= {t with load:=t.load+n}
def nE (W:ak) (d:cG):Option ak :=
 match W.aq.findIdx? (hq d.aW) with
 | none=>none
 | some k =>
  let t:=W.aq.getD k default
  let m:=W.bM.getD (W.place d.spot) 0
  if t.kind == 1 && decide (t.load<5) && beside t.spot d.spot && W.field.fu d.spot && m != 0 then
   some {W with bM:=W.bM.set (W.place d.spot) (m - 1),aq:=W.aq.set k (qG t 1)}
  else none
def drop (W:ak) (d:cG):Option ak :=
 match W.aq.findIdx? (hq d.aW) with
 | none=>none
 | some k =>
  let t:=W.aq.getD k default
  let o:=t.owner.toNat
  let s:=W.bp.getD o 0
  let n:=min t.load (1000000 - s)
  if t.load != 0 && beside (W.a7.getD o default) t.spot && decide (0<n) then
   some {W with bp:=W.bp.set o (s+n),aq:=W.aq.set k (qG t (-n))}
  else none
def around (c:az):List az :=
 [c,⟨c.x - 1,c.y - 1⟩,⟨c.x,c.y - 1⟩,⟨c.x+1,c.y - 1⟩,⟨c.x - 1,c.y⟩,⟨c.x,c.y⟩,⟨c.x+1,c.y⟩,⟨c.x - 1,c.y+1⟩,⟨c.x,c.y+1⟩,⟨c.x+1,c.y+1⟩]
def DV (W:ak) (c:az):Bool:=W.field.ground c && !W.aq.any (qP c)
def free (W:ak) (c:az):Option az:=(around c).find? W.DV
def rQ (W:ak) (d:cG):Option ak :=
 let s:=W.bp.getD d.aW.toNat 0
 if c9 d.aW 0 ((W.a7.length:Int) - 1) && c9 d.what 1 2 && decide (kW d.what≤s) && decide (W.aq.length<100) && decide (W.next<1000000) then
  match W.free (W.a7.getD d.aW.toNat default) with
  | none=>none
  | some c=>some {W with aq:=W.aq++ [⟨W.next,d.aW,d.what,c,kS d.what,0⟩],next:=W.next+1,bp:=W.bp.set d.aW.toNat (s - kW d.what)}
 else none
def lC (W:ak) (d:cG):Option ak:=if d.kind=1 then W.nE d else if d.kind=2 then W.drop d else if d.kind=3 then W.rQ d else none
def ij (W:ak):List cG→ak×List Bool
 | []=>(W, [])
 | d::l=>match W.lC d with
  | some V=>((V.ij l).1,true::(V.ij l).2)
  | none=>((W.ij l).1,false::(W.ij l).2)
end ak
theorem HU {l:List bd} {id:Int} {k:Nat} (h:l.findIdx? (hq id)=some k):∃ t,l[k]? =some t∧t.id=id∧l.getD k default=t:=by
 obtain ⟨τ,ae,_⟩:=aWe.1 h;exact ⟨l[k],aTF τ,by simpa [hq] using ae,by rw [aTB,aTF τ];rfl⟩
theorem aFB {W V:ak} {k:Nat} {t u:bd} (nu:V.aq=W.aq.set k u) (aJ:W.aq[k]? =some t) (hs:u.spot=t.spot) (i:Nat):V.jx i=W.jx i:=by
 unfold ak.jx;rw [nu,List.take_set,aUY];by_cases pY:k<i
 ·have τ:((W.aq.take i).map (·.spot))[k]? =some t.spot:=by rw [aTY,aUf,aTO pY,aJ];rfl
  obtain ⟨ae,aw⟩:=aTC.1 τ;rw [hs,← aw];exact aVr _
 ·rw [aX8 (by rw [aUz,aTD];omega)]
theorem aAR {W V:ak} {k:Nat} {t u:bd} (nu:V.aq=W.aq.set k u) (aJ:W.aq[k]? =some t) (hs:u.id=t.id) (i:Nat):V.jW i=W.jW i:=by
 unfold ak.jW;by_cases ar:i=0
 ·rw [aTO ar,aTO ar]
 ·rw [aTL ar,aTL ar,nu,aTB,aTB];by_cases au:k=i - 1
  ·subst au;rw [aT2 (aTC.1 aJ).1,aJ];exact hs
  ·rw [aT9 au]
theorem U4 {W V:ak} {k:Nat} {t u:bd} (nu:V.aq=W.aq.set k u) (aJ:W.aq[k]? =some t) {i:Nat} {x:bd} (hx:V.aq[i]? =some x):(i=k∧x=u)∨(i≠k∧W.aq[i]? =some x):=by
 rw [nu] at hx;by_cases au:k=i
 ·subst au;rw [aT2 (aTC.1 aJ).1] at hx;exact .inl ⟨Z,(aTA hx).symm⟩
 ·rw [aT9 au] at hx;exact .inr ⟨aWp au,hx⟩
theorem Good.turned {W V:ak} (h:Good W) {k:Nat} {t:bd} {n:Int} (aJ:W.aq[k]? =some t) (nu:V.aq=W.aq.set k (ak.qG t n)) (aC:0≤t.load+n∧t.load+n≤ak.BO t.kind)
  (hf:V.field=W.field) (γ:V.a7=W.a7) (hn:V.next=W.next) (hw:V.now=W.now)
  (uj:V.bp.length=W.bp.length) (hs:∀ (i:Nat) s,V.bp[i]? =some s→0≤s∧s≤1000000)
  (It:V.bM.length=W.bM.length) (hm:∀ (i:Nat) m,V.bM[i]? =some m→0≤m∧m≤1000000∧(m≤0∨W.field.a8.getD i 0=3)):Good V:=by
 have τ:=h.aq k t aJ;have hlen:V.aq.length=W.aq.length:=by rw [nu,aTH]
 refine ⟨by rw [hf];exact h.field,by rw [γ];exact h.lI,by rw [hlen];exact h.ek,by rw [uj,γ];exact h.sl, ?_,hs,by rw [It,hf];exact h.DR,by rw [hf];exact hm,λ i x hx=> ?_,λ i x hx=> ?_,λ i x hx=> ?_,by rw [hn];exact h.next,by rw [hw];exact h.now⟩
 ·rw [γ,hf];exact h.a7
 ·rw [hf,γ];rcases U4 nu aJ hx with ⟨rfl,rfl⟩ | ⟨_,hx⟩
  ·exact ⟨τ.kind,τ.owner,τ.ground,τ.dk,aC⟩
  ·exact h.aq i x hx
 ·rw [aAR nu aJ rfl,hn];rcases U4 nu aJ hx with ⟨rfl,rfl⟩ | ⟨_,hx⟩
  ·exact h.ids i t aJ
  ·exact h.ids i x hx
 ·rw [aFB nu aJ rfl];rcases U4 nu aJ hx with ⟨rfl,rfl⟩ | ⟨_,hx⟩
  ·exact h.jx i t aJ
  ·exact h.jx i x hx
theorem aBZ {W V:ak} {d:cG} (h:W.nE d=some V):∃ (k:Nat) (t:bd),W.aq.findIdx? (hq d.aW)=some k∧W.aq[k]? =some t∧t.id=d.aW∧t.kind=1∧t.load<5∧beside t.spot d.spot=true∧W.field.fu d.spot=true∧W.bM.getD (W.place d.spot) 0≠0∧
  V= {W with bM:=W.bM.set (W.place d.spot) (W.bM.getD (W.place d.spot) 0 - 1),aq:=W.aq.set k (ak.qG t 1)}:=by
 unfold ak.nE at h;cases hf:W.aq.findIdx? (hq d.aW) with
 | none=>rw [hf] at h;cases h
 | some k =>
  rw [hf] at h;obtain ⟨t,aJ,hid,aM⟩:=HU hf;simp only [aM] at h;split at h
  ·rename_i hc
   simp only [aTM,aUa,aXj,aUC] at hc;exact ⟨k,t,Z,aJ,hid,hc.1.1.1.1,hc.1.1.1.2,hc.1.1.2,hc.1.2,hc.2,(aTA h).symm⟩
  ·cases h
theorem atv {W V:ak} {d:cG} (h:W.drop d=some V):∃ (k:Nat) (t:bd) (n:Int),W.aq.findIdx? (hq d.aW)=some k∧W.aq[k]? =some t∧t.id=d.aW∧t.load≠0∧beside (W.a7.getD t.owner.toNat default) t.spot=true∧n=min t.load (1000000 - W.bp.getD t.owner.toNat 0)∧0<n∧
  V= {W with bp:=W.bp.set t.owner.toNat (W.bp.getD t.owner.toNat 0+n),aq:=W.aq.set k (ak.qG t (-n))}:=by
 unfold ak.drop at h;cases hf:W.aq.findIdx? (hq d.aW) with
 | none=>rw [hf] at h;cases h
 | some k =>
  rw [hf] at h;obtain ⟨t,aJ,hid,aM⟩:=HU hf;simp only [aM] at h;split at h
  ·rename_i hc
   simp only [aTM,aUa,aXj] at hc;exact ⟨k,t,_,Z,aJ,hid,hc.1.1,hc.1.2,Z,hc.2,(aTA h).symm⟩
  ·cases h
theorem ayf {W V:ak} {d:cG} (h:W.rQ d=some V):∃ c:az,W.free (W.a7.getD d.aW.toNat default)=some c∧0≤d.aW∧d.aW<(W.a7.length:Int)∧(d.what=1∨d.what=2)∧ak.kW d.what≤W.bp.getD d.aW.toNat 0∧W.aq.length<100∧W.next<1000000∧
  V= {W with aq:=W.aq++ [⟨W.next,d.aW,d.what,c,ak.kS d.what,0⟩],next:=W.next+1,bp:=W.bp.set d.aW.toNat (W.bp.getD d.aW.toNat 0 - ak.kW d.what)}:=by
 unfold ak.rQ at h;simp only at h;split at h
 ·rename_i hc
  simp only [aTM,aUa] at hc;have a:=kR hc.1.1.1.1;have b:=kR hc.1.1.1.2;split at h
  ·cases h
  ·rename_i c mR
   exact ⟨c,mR,a.1,by omega,by omega,hc.1.1.2,hc.1.2,hc.2,(aTA h).symm⟩
 ·cases h
theorem aDw (k:Int):0≤ak.kW k:=by unfold ak.kW;split<;>(try split)<;>omega
theorem Good.nE {W V:ak} {d:cG} (h:Good W) (hd:W.nE d=some V):Good V:=by
 obtain ⟨k,t,_,aJ,_,au,aC,_,dE,Br,rfl⟩:=aBZ hd;have τ:=h.aq k t aJ;have X2:ak.BO t.kind=5:=by rw [au];rfl
 obtain ⟨i1,i2,_⟩:=aI.idx h.field dE;have bA:W.place d.spot<W.bM.length:=by rw [h.DR];unfold ak.place;omega
 obtain ⟨m,hm⟩:=gH bA;have ae:=h.bM _ m hm;have aM:W.bM.getD (W.place d.spot) 0=m:=by rw [aTB,hm];rfl
 rw [aM] at Br ⊢;refine h.turned aJ Z (by have:=τ.load;omega) Z Z Z Z Z h.bp (by simp) λ i x hx=> ?_;simp only at hx;by_cases ar:W.place d.spot=i
 ·subst ar;rw [aT2 bA] at hx;obtain rfl:=aTA hx;refine ⟨by omega,by omega, ?_⟩;rcases ae.2.2 with aw | aw
  ·omega
  ·exact .inr aw
 ·rw [aT9 ar] at hx;exact h.bM i x hx
theorem Good.drop {W V:ak} {d:cG} (h:Good W) (hd:W.drop d=some V):Good V:=by
 obtain ⟨k,t,n,_,aJ,_,aC,_,hn,ag4,rfl⟩:=atv hd;have τ:=h.aq k t aJ;have bA:t.owner.toNat<W.bp.length:=by rw [h.sl];have:=τ.owner;omega
 obtain ⟨s,hs⟩:=gH bA;have ae:=h.bp _ s hs;have aM:W.bp.getD t.owner.toNat 0=s:=by rw [aTB,hs];rfl
 rw [aM] at hn ⊢;refine h.turned aJ Z (by have:=τ.load;omega) Z Z Z Z (by simp) (λ i x hx=> ?_) Z h.bM;simp only at hx;by_cases ar:t.owner.toNat=i
 ·subst ar;rw [aT2 bA] at hx;obtain rfl:=aTA hx;omega
 ·rw [aT9 ar] at hx;exact h.bp i x hx
theorem Good.rQ {W V:ak} {d:cG} (h:Good W) (hd:W.rQ d=some V):Good V:=by
 obtain ⟨c,mR,azG,nz,au,hp,FI,vI,rfl⟩:=ayf hd;have vJ:=aWS mR;unfold ak.DV at vJ;rw [aTM] at vJ;have pS:∀ t∈W.aq,t.spot≠c:=λ t aJ he=>by
  have:=vJ.2;rw [aUT,aXv] at this;exact this t aJ (by simp [qP,he])
 have bA:d.aW.toNat<W.bp.length:=by rw [h.sl];omega
 obtain ⟨s,hs⟩:=gH bA;have ae:=h.bp _ s hs;have aM:W.bp.getD d.aW.toNat 0=s:=by rw [aTB,hs];rfl
 rw [aM] at hp ⊢;have Rk:=aDw d.what;have hn:=h.next;have ahE:∀ i,i≤W.aq.length→ak.jx {W with aq:=W.aq++ [⟨W.next,d.aW,d.what,c,ak.kS d.what,0⟩],next:=W.next+1,bp:=W.bp.set d.aW.toNat (s - ak.kW d.what)} i=W.jx i:=λ i ar=>by
  unfold ak.jx;simp only;rw [aXM ar]
 have Q_:∀ i,i≤W.aq.length→ak.jW {W with aq:=W.aq++ [⟨W.next,d.aW,d.what,c,ak.kS d.what,0⟩],next:=W.next+1,bp:=W.bp.set d.aW.toNat (s - ak.kW d.what)} i=W.jW i:=λ i ar=>by
  unfold ak.jW;simp only;by_cases aK:i=0
  ·rw [aTO aK,aTO aK]
  ·rw [aTL aK,aTL aK,aTB,aTB,aTR (by omega)]
 have fA:∀ (i:Nat) x,(W.aq++ [(⟨W.next,d.aW,d.what,c,ak.kS d.what,0⟩:bd)])[i]? =some x→(i<W.aq.length∧W.aq[i]? =some x)∨(i=W.aq.length∧x=⟨W.next,d.aW,d.what,c,ak.kS d.what,0⟩):=λ i x hx=>by
  by_cases ar:i<W.aq.length
  ·rw [aTR ar] at hx;exact .inl ⟨ar,hx⟩
  ·rw [aTU (by omega)] at hx;have aK:i - W.aq.length=0:=by
    have:=(aTC.1 hx).1;simp at this;omega
   rw [aK] at hx;exact .inr ⟨by omega,by simpa using hx.symm⟩
 have aNp:W.jW W.aq.length<W.next∧0≤W.jW W.aq.length:=by
  by_cases aK:W.aq.length=0
  ·rw [aK];exact ⟨by show (0:Int)<_;omega,aVa _⟩
  ·obtain ⟨t,aJ⟩:=gH (l:=W.aq) (i:=W.aq.length - 1) (by omega);have aU:=h.ids _ t aJ;have e:W.jW W.aq.length=t.id:=by
    unfold ak.jW;rw [aTL aK,aTB,aJ];rfl
   rw [e];omega
 refine ⟨h.field,h.lI,by simp;omega,by simp;exact h.sl,h.a7,λ i x hx=> ?_,h.DR,h.bM,λ i x hx=> ?_,λ i x hx=> ?_,λ i x hx=> ?_,by simp only;omega,h.now⟩
 ·simp only at hx;by_cases ar:d.aW.toNat=i
  ·subst ar;rw [aT2 bA] at hx;obtain rfl:=aTA hx;omega
  ·rw [aT9 ar] at hx;exact h.bp i x hx
 ·rcases fA i x hx with ⟨_,hx⟩ | ⟨_,rfl⟩
  ·exact h.aq i x hx
  ·exact ⟨au,⟨azG,nz⟩,vJ.1,by simp only;rcases au with h | h<;>rw [h]<;>decide,by simp only;rcases au with h | h<;>rw [h]<;>decide⟩
 ·rcases fA i x hx with ⟨ar,hx⟩ | ⟨rfl,rfl⟩
  ·rw [Q_ i (by omega)];have:=h.ids i x hx;simp only;omega
  ·rw [Q_ _ (aTK _)];simp only;omega
 ·rcases fA i x hx with ⟨ar,hx⟩ | ⟨rfl,rfl⟩
  ·rw [ahE i (by omega)];exact h.jx i x hx
  ·rw [ahE _ (aTK _)];simp only;cases hc:(W.jx W.aq.length).contains c with
   | false=>rfl
   | true =>
    rw [aW0] at hc;unfold ak.jx at hc;obtain ⟨t,aJ,he⟩:=aUh.1 hc;exact absurd he (pS t (aVX aJ))
theorem Good.lC {W V:ak} {d:cG} (h:Good W) (hd:W.lC d=some V):Good V:=by
 unfold ak.lC at hd;split at hd
 ·exact h.nE hd
 ·split at hd
  ·exact h.drop hd
  ·split at hd
   ·exact h.rQ hd
   ·cases hd
theorem Good.ij {W:ak} (h:Good W):∀ l:List cG,Good (W.ij l).1:=by
 intro l;induction l generalizing W with
 | nil=>exact h
 | cons d l bK =>
  unfold ak.ij;cases hd:W.lC d with
  | none=>exact bK h
  | some V=>exact bK (h.lC hd)
end
section
structure lL (w:World) (aE S:Nat) (a:ak.b_) (W:ak):Prop where
 gV:aR w S (ak.cells a W) 151 (0,0)
 own:bO w aE a W
 a_:S∉bO.cM a
 low:aE≤S
theorem lL.later {w w':World} {aE S:Nat} {a:ak.b_} {W:ak} (h:lL w aE S a W) (γ:Below w.heap.size w w'):lL w' aE S a W:=⟨h.gV.later γ,h.own.later γ,h.a_,h.low⟩
theorem acT (a b:az) (w:World) (τ:0≤a.x) (ae:a.x≤40) (aw:0≤a.y) (aU:a.y≤40):
  Calls prog 142 #[.agg #[.int .i64 a.x, .int .i64 a.y], .agg #[.int .i64 b.x, .int .i64 b.y]] w λ e w'=>e= .returned (.bool (beside a b))∧Below w.heap.size w w':=by
 have cN:=lA w (.cells #[.int .i64 a.x, .int .i64 a.y] 55);have c8:=lA (w.alloc (.cells #[.int .i64 a.x, .int .i64 a.y] 55)) (.cells #[.int .i64 b.x, .int .i64 b.y] 55);have γ:=cN.trans (c8.mono cN.size);unfold beside;clear cN c8;rcases aVz b.x (a.x - 1) with c1 | c1
 ·rw [p1 (.inl c1)];have d1:decide (a.x - 1≤b.x)=false:=by simp;omega
  go_enter func142,ntmps142;go_wp2
  go_ret;exact ⟨Z,γ⟩
 ·have d1:decide (a.x - 1≤b.x)=true:=by simp;omega
  rcases aVz (a.x+1) b.x with c2 | c2
  ·rw [p1 (n:=b.x) (.inr c2)];have d2:decide (b.x≤a.x+1)=false:=by simp;omega
   go_enter func142,ntmps142;go_wp2
   go_ret;exact ⟨iq (by simp<;>omega),γ⟩
  ·have d2:decide (b.x≤a.x+1)=true:=by simp;omega
   rw [o2 (n:=b.x) c1 c2];rcases aVz b.y (a.y - 1) with c3 | c3
   ·rw [p1 (.inl c3)];have d3:decide (a.y - 1≤b.y)=false:=by simp;omega
    go_enter func142,ntmps142;go_wp2
    go_ret;exact ⟨iq (by simp<;>omega),γ⟩
   ·have d3:decide (a.y - 1≤b.y)=true:=by simp;omega
    rcases aVz (a.y+1) b.y with c4 | c4
    ·rw [p1 (n:=b.y) (.inr c4)];have d4:decide (b.y≤a.y+1)=false:=by simp;omega
     go_enter func142,ntmps142;go_wp2
     go_ret;exact ⟨iq (by simp<;>omega),γ⟩
    ·have d4:decide (b.y≤a.y+1)=true:=by simp;omega
     rw [o2 (n:=b.y) c3 c4];go_enter func142,ntmps142;go_wp2
     go_ret;exact ⟨iq (by simp<;>omega),γ⟩
theorem aGe (t:bd) (id:Int) (g:Nat) (w:World) (aM:w.cell? ⟨g,0,none⟩=some (.int .i64 id)):
  Calls prog 173 #[.agg #[.int .i64 t.id, .int .i64 t.owner, .int .i64 t.kind, .int .i64 t.spot.x, .int .i64 t.spot.y, .int .i64 t.dk, .int .i64 t.load], .pointer (some ⟨g,0,none⟩)] w λ e w'=>e= .returned (.bool (hq id t))∧Below w.heap.size w w':=by
 have γ:=lA w (.cells #[.int .i64 t.id, .int .i64 t.owner, .int .i64 t.kind, .int .i64 t.spot.x, .int .i64 t.spot.y, .int .i64 t.dk, .int .i64 t.load] 57);have bA:=aVG w _ aM;simp only at bA;go_enter func173,ntmps173;go_wp2_with fail
 go_ret;exact ⟨Z,γ⟩
theorem az7 (id:Int) (g:Nat) (A:Option Addr) (c:Nat) (l:List bd) (w:World) (aC:bd.rep.aG 56 w A c l) (aM:w.cell? ⟨g,0,none⟩=some (.int .i64 id)):
  Calls prog 172 #[.slice A l.length c, .func (.func 173) #[] #[.pointer (some ⟨g,0,none⟩)]] w λ e w'=>e= .returned (.int .i64 (fP (hq id) l))∧Below w.heap.size w w':=by
 obtain ⟨n,hn⟩:∃ n,l.length=n:=⟨_,rfl⟩;have hle:n≤9223372036854775807:=by have:=aC.1;have:=aC.2.1;omega
 rw [hn];have qB:=aTG aC;have eJ:=aTG hn;clear aC hn;go_enter func172,ntmps172;go_wp2_with fail
 go_loopw [5,8] (λ _ ht wr=>∃ k:Nat,k≤n∧ht= .int .i64 (k:Int)∧Hid (∀ j (aA:j<k) (rR:j<l.length),(hq id) l[j]=false)∧Below w.heap.size w wr) (λ _ ht _=>n - (intOf ht).toNat)
 case atStart=>exact ⟨0,aUv _,rfl,(λ j aA=>by omega),aUb _ _⟩
 case round =>
  obtain ⟨k,au,rfl,ig,γ⟩:=hrel;by_cases bA:k<n
  ·have js:k<l.length:=by rw [eJ.out];exact bA
   obtain ⟨b,o,rfl,jJ⟩:=bd.at_ (qB.out.keep γ) (by omega);obtain ⟨x,rV⟩:∃ x,l[k]'js=x:=⟨_,rfl⟩;obtain ⟨ux,gR,ia,sb,Sf,Zs,akT⟩:=jJ k x (by rw [aTF js,rV]);have wK:=aTG rV;have XM:wr.cell? ⟨g,0,none⟩=some (.int .i64 id):=cell_later γ aM;have hc:=aGe x id g wr XM;clear jJ rV;cases jH:(hq id) x with
   | true =>
    have lh:fP (hq id) l=(k:Int):=FO js (by rw [wK.out];exact jH) λ j aA=>ig.out j aA (by omega);rw [jH] at hc;have rj:=aTG lh;clear lh jH;go_wp2_with (go_at_call 173;refine hc.mono ?_;rintro e w' ⟨rfl,bF⟩)
    go_ret;exact ⟨by rw [rj.out];rfl,γ.trans (bF.mono γ.size)⟩
   | false =>
    rw [jH] at hc;have pz:Hid (∀ j (aA:j<k+1) (rR:j<l.length),(hq id) l[j]=false):=by
     intro j aA rR;by_cases h:j<k
     ·exact ig.out j h rR
     ·obtain rfl:j=k:=by omega
      rw [wK.out];exact jH
    clear jH;go_wp2_with (go_at_call 173;refine hc.mono ?_;rintro e w' ⟨rfl,bF⟩)
    go_roundw
    case rel=>exact ⟨k+1,by omega,by go_num,pz,γ.trans (bF.mono γ.size)⟩
    case measure=>simp [intOf];omega
  ·have lh:fP (hq id) l= -1:=FN λ j aA=>ig.out j (by have:=eJ.out;omega) aA;have rj:=aTG lh;clear lh;go_wp2_with fail
   go_ret;exact ⟨by rw [rj.out];rfl,γ⟩
def aaj (a:ak.b_) (k:Nat):Option Addr:=a.T.map λ x=>⟨x.block,k * 7,none⟩
def Jn (a:ak.b_) (W:ak) (id:Int):Option Addr:=match W.aq.findIdx? (hq id) with | none=>none | some k=>aaj a k
theorem Sx (id:Int) (w:World) (aE S:Nat) (a:ak.b_) (W:ak) (h:lL w aE S a W):
  Calls prog 141 #[.pointer (some ⟨S,0,none⟩), .int .i64 id] w λ e w'=>e= .returned (.pointer (Jn a W id))∧Below w.heap.size w w':=by
 obtain ⟨fe,gq,gu,fF,fk,fv,fQ,gB,fX,fK⟩:=a;have cN:=lA w (.cells #[.int .i64 id] 3);have oU:=aR.new w [.int .i64 id] 3 (0,0);obtain ⟨w0,jE⟩:∃ w0,Hid (w.alloc (.cells #[.int .i64 id] 3)=w0):=⟨_,aTG rfl⟩;rw [jE.out] at cN;have oU:aR w0 w.heap.size [.int .i64 id] 3 (0,0):=by rw [← jE.out];exact oU
 have aK:=h.later cN;obtain ⟨ek,i'⟩:∃ n,Hid (W.aq.length=n):=⟨_,aTG rfl⟩;have J_:=aTG (az7 id w.heap.size fk fK W.aq w0 aK.own.T.has (oU.cell 0));have aM2:=h.gV.lt;obtain ⟨bo,c1,c2,c3,c4,c5,dQ,ed,eR⟩:=ak.tl aK.gV;have aZ:=aTG aK.gV;have cr:bd.rep.aH 57 56 w0 aE (aa.aj fk) fk fK W.aq:=aK.own.T;obtain ⟨Hr,hL,dH,gy,y9,Hs,acI,aKV,aKW⟩:=ak.tl h.gV;rw [i'.out] at J_ dQ acI;unfold Jn;cases hf:W.aq.findIdx? (hq id) with
 | none =>
  have ar:fP (hq id) W.aq= -1:=by unfold fP;rw [hf]
  rw [ar] at J_;clear hf ar h aK cr oU;go_enter func141,ntmps141;go_wp2_with fail
  rw [jE.out];refine J_.out.mono ?_;rintro e cS ⟨rfl,bF⟩;go_wp2_with fail
  go_ret;exact ⟨Z,cN.trans (bF.mono cN.size)⟩
 | some k =>
  have ar:fP (hq id) W.aq=(k:Int):=by unfold fP;rw [hf]
  rw [ar] at J_;obtain ⟨t,aJ,_⟩:=HU hf;have au:k<ek:=by rw [← i'.out];exact (aTC.1 aJ).1
  obtain ⟨g,rfl⟩:=cr.block (by rw [i'.out];omega);have pY:(k:Int)<(ek:Int):=by omega
  have oX:(0:Int)≤(k:Int):=by omega
  clear hf ar h aK cr oU aJ;go_enter func141,ntmps141;go_wp2_with fail
  rw [jE.out];refine J_.out.mono ?_;rintro e cS ⟨rfl,bF⟩;have d6:=cell_later bF dQ;clear bo c1 c2 c3 c4 c5 dQ ed eR;go_wp2_with fail
  go_ret;exact ⟨by simp [aaj],cN.trans (bF.mono cN.size)⟩
end
section
def aJw (W:ak) (V:Option ak) (w:World) (aE S:Nat) (e:Ending) (w':World):Prop :=
 ∃ a',e= .returned (.bool V.isSome)∧lL w' aE S a' (V.getD W)∧Below aE w w'
def aKm (W:ak) (d:cG) (w:World) (aE S:Nat) (a:ak.b_) (e:Ending) (w':World):Prop :=
 ∃ V,e= .returned (.bool (W.nE d).isSome)∧(W.nE d).getD W=V∧lL w' aE S a V∧Below aE w w'
theorem RX {W:ak} {d:cG} {k:Nat} {t:bd} (hf:W.aq.findIdx? (hq d.aW)=some k) (aJ:W.aq[k]? =some t):
  W.nE d=if t.kind == 1 && decide (t.load<5) && beside t.spot d.spot && W.field.fu d.spot && W.bM.getD (W.place d.spot) 0 != 0 then
   some {W with bM:=W.bM.set (W.place d.spot) (W.bM.getD (W.place d.spot) 0 - 1),aq:=W.aq.set k (ak.qG t 1)} else none:=by
 have aM:W.aq.getD k default=t:=by rw [aTB,aJ];rfl
 unfold ak.nE;rw [hf];simp only [aM]
end
section
def wT (W:ak) (V:Option ak) (w:World) (aE S:Nat) (a:ak.b_) (e:Ending) (w':World):Prop :=
 ∃ a',e= .returned (.bool V.isSome)∧lL w' aE S a' (V.getD W)∧(∀ q∈bO.cM a',q∈bO.cM a∨w.heap.size≤q)∧Mod (S::bO.cM a) w w'
theorem bO.aFg {w aS:World} {aE:Nat} {a:ak.b_} {W:ak} {l:List Int} (h:bO w aE a W) (m:Mod (aa.aj a.M) w aS) (n2:bW.aH 3 8 aS aE (aa.aj a.M) a.M a.m l):bO aS aE a {W with bM:=l}:=by
 obtain ⟨d1,d2,d3⟩:=h.PW;exact ⟨h.P.mod m λ x hx hs=>(d1 x hs).1 hx,h.B.mod m λ x hx hs=>(d1 x hs).2.1 hx,h.S.mod m λ x hx hs=>(d1 x hs).2.2.1 hx,n2,h.T.mod m λ x hx hs=>(d1 x hs).2.2.2 hx,h.apart,h.nums⟩
theorem bO.alA {w aS:World} {aE:Nat} {a:ak.b_} {W:ak} {l:List bd} (h:bO w aE a W) (m:Mod (aa.aj a.T) w aS) (cr:bd.rep.aH 57 56 aS aE (aa.aj a.T) a.T a.t l):bO aS aE a {W with aq:=l}:=by
 obtain ⟨d1,d2,d3⟩:=h.PW;exact ⟨h.P.mod m λ x hx hs=>(d2 x hs).1 hx,h.B.mod m λ x hx hs=>(d2 x hs).2.1 hx,h.S.mod m λ x hx hs=>(d2 x hs).2.2.1 hx,h.M.mod m λ x hx hs=>(d2 x hs).2.2.2 hx,cr,h.apart,h.nums⟩
theorem al9 {w:World} {aE:Nat} {a:ak.b_} {W:ak} {id:Int} {k:Nat} (h:bO w aE a W) (hf:W.aq.findIdx? (hq id)=some k):Jn a W id=some ⟨eV a.T,kz a.T+k * 7,none⟩:=by
 obtain ⟨t,aJ,_⟩:=HU hf;have cr:bd.rep.aH 57 56 w aE (aa.aj a.T) a.T a.t W.aq:=h.T;obtain ⟨g,aM⟩:=cr.block (by have:=(aTC.1 aJ).1;omega);unfold Jn aaj;rw [hf,aM];simp [eV,kz]
theorem al8 {a:ak.b_} {W:ak} {id:Int} (hf:W.aq.findIdx? (hq id)=none):Jn a W id=none:=by unfold Jn;rw [hf]
theorem aj1 {W:ak} {d:cG} (hf:W.aq.findIdx? (hq d.aW)=none):W.nE d=none:=by unfold ak.nE;rw [hf]
theorem aj0 {W:ak} {d:cG} {k:Nat} {t:bd} (hf:W.aq.findIdx? (hq d.aW)=some k) (aJ:W.aq[k]? =some t) (h:((t.kind != 1 || decide (5≤t.load)) || !beside t.spot d.spot)=true):W.nE d=none:=by
 rw [RX hf aJ,aTL];intro hc;simp only [aTM,aUa,aUC] at hc;simp only [hc.1.1.2,hc.1.1.1.1,aUr,bne_self_eq_false,aUa,aVQ,aUm,aVV,false_or] at h;omega
theorem aj2 {W:ak} {d:cG} {k:Nat} {t:bd} (hf:W.aq.findIdx? (hq d.aW)=some k) (aJ:W.aq[k]? =some t) (hF:W.field.bn=0) (h:¬ W.field.dY d.spot=0):W.nE d=none:=by
 rw [RX hf aJ,aTL];intro hc;simp only [aTM] at hc;exact h (aI.mK hF hc.1.2).1
theorem aj3 {W:ak} {d:cG} {k:Nat} {t:bd} {m:Int} (hf:W.aq.findIdx? (hq d.aW)=some k) (aJ:W.aq[k]? =some t) (hm:W.bM.getD (W.place d.spot) 0=m) (h:m=0):W.nE d=none:=by
 rw [RX hf aJ,hm,h,aTL (by simp)]
theorem aBY {W:ak} {d:cG} {k:Nat} {t:bd} {m:Int} (hf:W.aq.findIdx? (hq d.aW)=some k) (aJ:W.aq[k]? =some t) (au:t.kind=1) (aC:t.load<5) (γ:beside t.spot d.spot=true) (dE:W.field.fu d.spot=true) (hm:W.bM.getD (W.place d.spot) 0=m) (h:¬ m=0):
  W.nE d=some {W with bM:=W.bM.set (W.place d.spot) (m - 1),aq:=W.aq.set k (ak.qG t 1)}:=by
 rw [RX hf aJ,hm,aTO];simp [au,aC,γ,dE,h]
theorem aBW (d:cG) (w:World) (aE S:Nat) (a:ak.b_) (W:ak) (h:lL w aE S a W) (bQ:Good W) (hf:W.aq.findIdx? (hq d.aW)=none):
  Calls prog 105 #[.pointer (some ⟨S,0,none⟩), .agg #[J d.kind,J d.aW,J d.spot.x,J d.spot.y,J d.what]] w (wT W (W.nE d) w aE S a):=by
 have jt:=h.low;have jf:=h.a_;have bN:=h.gV;have aX:=h.own;have p0:=al8 (a:=a) hf;refine b' (n:=88) func105 Z Z Z ?_;refine ah<|ck Z Z Z Z λ iH AY m8 MK fY=> ?_;have b9:=(Mod.bg (S::bO.cM a) w).trans (Mod.bt m8);refine va Z<|ag<|ah<|vm Z<|Φ (av zg Z)<|Φ (ao Z (fY.one a6 Z))<| ?_;have bN:=bN.later m8;have aX:=aX.later m8;refine ca P0 Z Z (((p0 ▸ Sx d.aW _ aE S a W ⟨bN,aX,jf,jt⟩)).mono ?_);rintro e tk ⟨rfl,br⟩;refine ⟨_,Z, ?_⟩;have jC:=b9.trans (Mod.bt br);refine va Z<|ag<|ay<|ay<| ?_;refine cR [(6,0),(13,0),(20,0),(22,0),(23,0)] [0,1,2,3,4,5,6,7,8,9,10,11,12,13,14,15,16,17,18,19,20,21,22,23,24,25] ?_;refine a1 rfl rfl<|aB rfl (λ _=>PE underlying206 rfl rfl)<|a1 rfl rfl<|di rfl rfl<|di rfl rfl<|di rfl rfl<|jS rfl rfl<|di rfl rfl<|aB rfl (λ _=>qg rfl rfl)<|a1 rfl rfl<|di rfl rfl<|di rfl rfl<|di rfl rfl<|jS rfl rfl<|di rfl rfl<|aB rfl (λ _=>qg rfl rfl)<|a1 rfl rfl<|di rfl rfl<|di rfl rfl<|di rfl rfl<|jS rfl rfl<|di rfl rfl<|jS rfl rfl<|dJ (v:=undef) (args:= []) rfl rfl rfl rfl rfl rfl P1 (λ hc=>nomatch hc) (λ hc=>nomatch hc) rfl<| ?_;refine di Z Z<|aB Z (λ _=>qg Z Z)<|fn λ B4 eo=> ?_;have nS:=jC.trans (Mod.bt eo);refine aP<|fH Z<|ah<|va Z<|ag<|rt<|bP<|aV (.tmp Z .nil)<| ?_;have aX:=aX.later (ab br eo);have bN:=bN.later (ab br eo);exact ⟨a,by rw [aj1 hf];rfl,by rw [aj1 hf];exact ⟨bN,aX,jf,jt⟩,λ q I=> .inl I,nS⟩
theorem aBV (d:cG) (w:World) (aE S:Nat) (a:ak.b_) (W:ak) (h:lL w aE S a W) (bQ:Good W) (k:Nat) (t:bd) (hf:W.aq.findIdx? (hq d.aW)=some k) (aJ:W.aq[k]? =some t):
  Calls prog 105 #[.pointer (some ⟨S,0,none⟩), .agg #[J d.kind,J d.aW,J d.spot.x,J d.spot.y,J d.what]] w (wT W (W.nE d) w aE S a):=by
 have It:=bQ.DR;have jt:=h.low;have jf:=h.a_;have bN:=h.gV;have aX:=h.own;have A4:∀ q∈bO.cM a,q=S→False:=λ q I γ=>jf (γ ▸ I);have B0:=b7 aX.lt;have p0:=al9 aX hf;have cr:=bQ.aq k t aJ;obtain ⟨i1,i2,i3,i4,i5,i6⟩:=aI.idx bQ.field (aI.ke cr.ground);obtain ⟨nR,N6,Tx,Ty,_,_⟩:=aI.ks bQ.field;have c8:0≤t.spot.x:=by omega
 have bF:t.spot.x≤40:=by omega
 have dZ:0≤t.spot.y:=by omega
 have dK:t.spot.y≤40:=by omega
 have ayu:=cr.load;refine b' (n:=88) func105 Z Z Z ?_;refine ah<|ck Z Z Z Z λ iH AY m8 MK fY=> ?_;have b9:=(Mod.bg (S::bO.cM a) w).trans (Mod.bt m8);refine va Z<|ag<|ah<|vm Z<|Φ (av zg Z)<|Φ (ao Z (fY.one a6 Z))<| ?_;have bN:=bN.later m8;have aX:=aX.later m8;refine ca P0 Z Z (((p0 ▸ Sx d.aW _ aE S a W ⟨bN,aX,jf,jt⟩)).mono ?_);rintro e tk ⟨rfl,br⟩;refine ⟨_,Z, ?_⟩;have jC:=b9.trans (Mod.bt br);refine va Z<|ag<|ay<|ay<| ?_;refine cR [(6,0),(13,0),(20,0),(22,0),(23,0)] [0,1,2,3,4,5,6,7,8,9,10,11,12,13,14,15,16,17,18,19,20,21,22,23,24,25] ?_;refine a1 Z Z<|aB Z (λ _=>PE underlying206 Z Z)<|a1 Z Z<|eS Z Z Z<|cd Z Z (λ hc _=>cf Z)<|cd Z Z (λ hc _=>av Qe Z)<| ?_;have aX:=aX.later br;refine dT Z Z (λ hc _ x=>ao Z (aa.aG.jT jI (by rw [← (aX.later x).T.has.bs (aO k (by have:=(aTC.1 aJ).1;exact this))];exact (aX.later x).T.has) 2 aJ Z a6))<|cd Z Z (λ hc _=>bne Z Z)<|aB Z (λ _=>s6 Z Z)<|a1 Z Z<|eS Z Z Z<|cd Z Z (λ hc _=>cf (gt hc Z))<|cd Z Z (λ hc _=>av A' (gt hc Z))<|dT Z Z (λ hc _ x=>ao (gt hc Z) (aa.aG.jT jI (by rw [← (aX.later x).T.has.bs (aO k (by have:=(aTC.1 aJ).1;exact this))];exact (aX.later x).T.has) 6 aJ Z a6))<|cd Z Z (λ hc _=>j_ (gt hc Z) Z)<|aB Z (λ _=>fC Z Z Z Z)<|a1 Z Z<|eS Z Z Z<|cd Z Z (λ hc _=>cf (gt hc Z))<|cd Z Z (λ hc _=>av tZ (gt hc Z))<|dT Z Z (λ hc _ x=>ao (gt hc Z) (aa.aG.part jI (by rw [← (aX.later x).T.has.bs (aO k (by have:=(aTC.1 aJ).1;exact this))];exact (aX.later x).T.has) 3 (ds:= [J t.spot.x,J t.spot.y]) aJ Z cv b2))<|cd Z Z (λ hc _=>av P2 Z)<| ?_;have fY:=fY.later br;refine dT Z Z (λ hc _ x=>ao (gt hc Z) ((fY.later x).par [J d.spot.x,J d.spot.y] cv b2 Z))<|dJ Z Z Z Z Z Z P1 (λ hc=>ez (gt hc Z) (ez (gt hc Z) Z)) (λ hc _ x=>acT t.spot d.spot _ c8 bF dZ dK) Z<|cd Z Z (λ hc _=>ek (gt hc Z))<|aB Z (λ _=>fC Z Z Z Z)<|fn λ B4 eo=> ?_;have nS:=jC.trans (Mod.bt eo);refine aP<| ?_;refine dn Z (λ iT=> ?_) (λ iT=> ?_)
 ·refine ah<|va Z<|ag<|rt<|bP<|aV (.tmp Z .nil)<| ?_;have aX:=aX.later eo;have bN:=bN.later (ab br eo);exact ⟨a,by rw [aj0 hf aJ iT];rfl,by rw [aj0 hf aJ iT];exact ⟨bN,aX,jf,jt⟩,λ q I=> .inl I,nS⟩
 ·simp only [aUl,aW9,aUj,aVm,aYM] at iT;obtain ⟨⟨au,aC⟩,LG⟩:=iT;refine bl<|ay<|ay<| ?_;refine cR [(4,0),(6,0),(7,0)] [0,1,2,3,4,5,6,7,8,9,10,11,12] ?_;refine a1 Z Z<|aB Z (λ _=>cf Z)<|aB Z (λ _=>av np Z)<|aB Z (λ _=>av qI Z)<| ?_;have bN:=bN.later (ab br eo);refine bx Z (λ _ x=>ao Z ((bN.later x).par [J W.field.wide,J W.field.high, .slice a.P W.field.a8.length a.p] la ld Z))<|aB Z (λ _=>av P2 Z)<| ?_;have fY:=fY.later eo;refine bx Z (λ _ x=>ao Z ((fY.later x).par [J d.spot.x,J d.spot.y] cv b2 Z))<| ?_;have aX:=aX.later eo;refine pO Z Z rC Z (λ _ x=>sP W.field d.spot a.P a.p _ ((aX.later x).P).has) Z<|a1 Z Z<|aB Z (λ _=>ex Z Z)<|aB Z (λ _=>ex Z Z)<|aB Z (λ _=>fG Z)<|aB Z (λ _=>fG Z)<|fn λ wk cI=> ?_;have km:=nS.trans (Mod.bt cI);refine aP<|ah<|vm Z<|Φ (bne Z Z)<|ag<| ?_;refine ee Z (λ n3=> ?_) (λ n3=> ?_)
  ·refine ah<|va Z<|ag<|rt<|bP<|aV (.tmp Z .nil)<| ?_;have aX:=aX.later cI;have bN:=bN.later cI;exact ⟨a,by rw [aj2 hf aJ bQ.field n3];rfl,by rw [aj2 hf aJ bQ.field n3];exact ⟨bN,aX,jf,jt⟩,λ q I=> .inl I,km⟩
  ·have dE:=U2 bQ.field n3;obtain ⟨d_,eU,jj,qk,pg,ql⟩:=aI.idx bQ.field dE;have n_:=aI.eZ bQ.field;obtain ⟨nR,N6,Tx,Ty,_,_⟩:=aI.ks bQ.field;have mv:0≤d.spot.y * W.field.wide:=aW5 pg (by omega);have z2:d.spot.y * W.field.wide≤1600:=by omega
   have ay9:W.place d.spot<W.bM.length:=by unfold ak.place;omega
   obtain ⟨m,hm⟩:=gH ay9;have aNz:=bQ.bM _ m hm;have X1:W.bM.getD (W.place d.spot) 0=m:=by rw [aTB,hm];rfl
   refine bl<|ay<| ?_;refine cR [(4,0),(7,0),(13,0),(17,0)] [0,1,2,3,4,5,6,7,8,9,10,11,12,13,14,15,16,17,18,19,20] ?_;refine a1 Z Z<|aB Z (λ _=>cf Z)<|aB Z (λ _=>av np Z)<|aB Z (λ _=>av zn Z)<| ?_;have bN:=bN.later cI;refine bx Z (λ _ x=>ao Z ((bN.later x).one fV Z))<|aB Z (λ _=>av P2 Z)<|aB Z (λ _=>av jd Z)<| ?_;have fY:=fY.later cI;refine bx Z (λ _ x=>ao Z ((fY.later x).one a6 Z))<|a1 Z Z<|aB Z (λ _=>cf Z)<|aB Z (λ _=>av np Z)<|aB Z (λ _=>av qI Z)<|aB Z (λ _=>av K3 Z)<|bx Z (λ _ x=>ao Z ((bN.later x).one a6 Z))<|aB Z (λ _=>w_ Z Z (bf (by omega)))<|aB Z (λ _=>av P2 Z)<|aB Z (λ _=>av jb Z)<|bx Z (λ _ x=>ao Z ((fY.later x).one a6 Z))<|aB Z (λ _=>bad Z Z (bf (by omega)))<| ?_;have aX:=aX.later cI;refine aB Z (λ _=>bT (((d.spot.y * W.field.wide)+d.spot.x).toNat) underlying22 dI Z Z (aX.M.has.bs (aO (((d.spot.y * W.field.wide)+d.spot.x).toNat) (show (d.spot.y * W.field.wide+d.spot.x).toNat<W.bM.length by omega))) (by omega) (show (d.spot.y * W.field.wide+d.spot.x).toNat<W.bM.length by omega))<|aB Z (λ _=>fG Z)<|fn λ yj iu=> ?_;have l3:=km.trans (Mod.bt iu);refine aP<|ay<|ah<|vm Z<|Φ (cf Z)<| ?_;have aX:=aX.later iu;refine Φ (ao Z (aa.aG.eM gI (by rw [← aX.M.has.bs (aO (((d.spot.y * W.field.wide)+d.spot.x).toNat) (show (d.spot.y * W.field.wide+d.spot.x).toNat<W.bM.length by omega))];exact aX.M.has) hm Z a6))<|Φ (beq Z Z)<|ag<| ?_;refine jo Z (λ ub=> ?_) (λ ub=> ?_)
   ·refine ah<|va Z<|ag<|rt<|bP<|aV (.tmp Z .nil)<| ?_;have bN:=bN.later iu;exact ⟨a,by rw [aj3 hf aJ X1 ub];rfl,by rw [aj3 hf aJ X1 ub];exact ⟨bN,aX,jf,jt⟩,λ q I=> .inl I,l3⟩
   ·refine bl<|ah<|vm Z<|Φ (cf Z)<|Φ (ao Z (aa.aG.eM gI (by rw [← aX.M.has.bs (aO (((d.spot.y * W.field.wide)+d.spot.x).toNat) (show (d.spot.y * W.field.wide+d.spot.x).toNat<W.bM.length by omega))];exact aX.M.has) hm Z a6))<|Φ (gh Z Z (bf (by omega)))<|Φ (cf Z)<|so (q':=m - 1) (j:=0) (i:=((d.spot.y * W.field.wide)+d.spot.x).toNat) aX.M aa.dj hm Z Z Z Z (λ _ cs h=>by have qe:=(show _∧_ from h).2;obtain rfl:=gI h;exact ⟨rfl,bY.2 (by omega)⟩) Z Z dI λ q2 BI apJ=> ?_;have bN:=bN.later iu;have fY:=fY.later iu;have iM:=l3.md BI (λ q I=> .inl (aTS _ (HW I)));have OJ:=aX.aFg BI apJ;have asM:∀ q∈aa.aj a.M,q=S→False:=λ q I γ=>by (exact A4 q (HW I) γ)
    have bN:=bN.mod BI (λ I=>asM _ I rfl);refine ag<|ah<|vm Z<|Φ (cf Z)<|Φ (av A' Z)<|Φ (ao Z (aa.aG.jT jI (by rw [← OJ.T.has.bs (aO k (by have:=(aTC.1 aJ).1;exact this))];exact OJ.T.has) 6 aJ Z a6))<|Φ (bad Z Z (bf (by omega)))<|Φ (cf Z)<|Φ (av A' Z)<|so (q':=ak.qG t 1) (j:=6) (i:=k) OJ.T aa.dj aJ Z Z Z Z (λ _ cs h=>by have qe:=(show _∧_ from h).2;obtain rfl:=jI h;exact ⟨rfl,by obtain ⟨pa,lV,nF,og,qd,I1,M5⟩:=qe;exact ⟨pa,lV,nF,og,qd,I1,bY.2 (by show _≤t.load+1∧t.load+1≤_;omega)⟩⟩) Z Z dI λ th h_ Kv=> ?_;have asO:∀ q∈aa.aj a.M,q=AY→False:=λ q I γ=>by (have:=B0 q (HW I);omega)
    have fY:=fY.mod BI (λ I=>asO _ I rfl);have iY:=iM.md h_ (λ q I=> .inl (aTS _ (rF I)));have aoR:=OJ.alA h_ Kv;have asP:∀ q∈aa.aj a.T,q=S→False:=λ q I γ=>by (exact A4 q (rF I) γ)
    have bN:=bN.mod h_ (λ I=>asP _ I rfl);refine ag<|ah<|va Z<|ag<|rt<|aV (.tmp Z .nil)<| ?_;rw [aBY hf aJ au aC LG dE X1 (by assumption)];exact ⟨a,Z,⟨by simpa [ak.cells] using bN,aoR,jf,jt⟩,λ q I=> .inl I,iY⟩
end
section
def aJx (W:ak) (d:cG) (w:World) (aE S:Nat) (a:ak.b_) (e:Ending) (w':World):Prop :=
 ∃ V,e= .returned (.bool (W.drop d).isSome)∧(W.drop d).getD W=V∧lL w' aE S a V∧Below aE w w'
theorem drop_eq {W:ak} {d:cG} {k:Nat} {t:bd} {b:az} {s:Int} (hf:W.aq.findIdx? (hq d.aW)=some k) (aJ:W.aq[k]? =some t) (γ:W.a7[t.owner.toNat]? =some b) (hs:W.bp[t.owner.toNat]? =some s):
  W.drop d=if t.load != 0 && beside b t.spot && decide (0<min t.load (1000000 - s)) then
   some {W with bp:=W.bp.set t.owner.toNat (s+min t.load (1000000 - s)),aq:=W.aq.set k (ak.qG t (-(min t.load (1000000 - s))))} else none:=by
 have aM:W.aq.getD k default=t:=by rw [aTB,aJ];rfl
 have XN:W.a7.getD t.owner.toNat default=b:=by rw [aTB,γ];rfl
 have agJ:W.bp.getD t.owner.toNat 0=s:=by rw [aTB,hs];rfl
 unfold ak.drop;rw [hf];simp only [aM,XN,agJ]
theorem alB {α:Type} {l:List α} {i:Nat} {x:α} (h:l[i]? =some x):l.set i x=l:=by
 apply aUS;intro j;by_cases e:i=j
 ·subst e;rw [aT2 (aTC.1 h).1,h]
 ·rw [aT9 e]
end
end Go.Proofs.YtmeeljmapailnaaGreat
