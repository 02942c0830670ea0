import Derived.Test.YtlikikpgmmkjbaaGreatTroI
set_option linter.unusedVariables false
set_option linter.unusedSimpArgs false
set_option maxRecDepth 100000
set_option maxHeartbeats 4000000
namespace Go.Proofs.YtlikikpgmmkjbaaGreat
open Tryz
section
open Go.RowKit
theorem bf.aqb {w aM:World} {aB:Nat} {a:ae.b6} {W:ae} {l:List aW} (h:bf w aB a W) (m:Mod (κ.af a.T) w aM) (bQ:aW.rep.aF 66 56 aM aB (κ.af a.T) a.T a.t l):bf aM aB a {W with ag:=l}:=by
 have hn:=(List.nodup_append.1 h.apart).2.2;have d:∀ q∈κ.af a.P++κ.af a.B++κ.af a.S++κ.af a.M,q∉κ.af a.T:=λ q I aA=>hn q I q aA rfl;exact ⟨h.P.mod m (λ q I=>d q (by simp [I])),h.B.mod m (λ q I=>d q (by simp [I])),h.S.mod m (λ q I=>d q (by simp [I])),h.M.mod m (λ q I=>d q (by simp [I])),bQ,h.apart,h.nums⟩
theorem akN {w:World} {aB:Nat} {a:ae.b6} {W:ae} (h:bf w aB a W):∀ q∈κ.af a.P,q∉κ.af a.T:=λ q I aA=>(List.nodup_append.1 h.apart).2.2 q (by simp [I]) q aA rfl
theorem aqe (w0:World) (a:ae.b6) (W:ae) (A:Option Addr) (c:Nat) (l:List cS) (w:World) (Kz:bf w w0.heap.size a W) (az:cS.rep.aH 24 w A c l) (DE:0<l.length→∀ q∈κ.af A,q∉κ.af a.T) (Bz:W.ag.length≤100000):
  Calls prog 98 #[.agg (ae.cells a W).toArray, .slice A l.length c] w (λ e w'=>∃ bH bW,e= .returned (.slice bH (W.kn l).2.length bW)∧bz.aF 3 8 w' w.heap.size (κ.af bH) bH bW (W.kn l).2∧bf w' w0.heap.size a (W.kn l).1∧Mod (κ.af a.T) w w'):=by
 refine (atw w0 a W A c l w Kz.P.has Kz.T (akN Kz) az DE Bz).mono ?_;rintro e w' ⟨bH,bW,rfl,γ,aa,au⟩;exact ⟨bH,bW,Z,γ,Kz.aqb au aa,au⟩
theorem Sj (W:ae) (l:List cS):(W.kn l).1.ag.length=W.ag.length:=(L8 _).1
theorem atx (a:ae.b6) (W:ae) (l:List cS):ae.cells a W=ae.cells a (W.kn l).1:=by
 unfold ae.cells;rw [Sj];rfl
def px (W:ae) (l:List cS):Int:=if W.bh≠0 then W.bh else if 200<l.length then 2 else 0
noncomputable def fN (W:ae) (l:List cS):ae:=if px W l≠0 then ae.zero else (W.kn l).1
noncomputable def mj (W:ae) (l:List cS):List Int:=if px W l≠0 then [] else (W.kn l).2
theorem abk {W:ae} {l:List cS} (h:¬ W.bh=0):px W l=W.bh∧fN W l=ae.zero∧mj W l= []:=by
 have e:px W l=W.bh:=by unfold px;rw [if_pos h]
 unfold fN mj;rw [e,if_pos h,if_pos h];exact ⟨Z,Z,Z⟩
theorem abl {W:ae} {l:List cS} (h:W.bh=0) (az:(200:Int)<(l.length:Int)):px W l=2∧fN W l=ae.zero∧mj W l= []:=by
 have e:px W l=2:=by unfold px;rw [if_neg (by omega),if_pos (by omega)]
 unfold fN mj;rw [e];exact ⟨Z,Z,Z⟩
theorem Lu {W:ae} {l:List cS} (h:W.bh=0) (az:(l.length:Int)≤200):px W l=0∧fN W l=(W.kn l).1∧mj W l=(W.kn l).2:=by
 have e:px W l=0:=by unfold px;rw [if_neg (by omega),if_neg (by omega)]
 unfold fN mj;rw [e];exact ⟨Z,Z,Z⟩
noncomputable def acr (g:cS):Nat→ae→Nat
 | 0,_=>0
 | n+1,W=>if (W.kn [g]).2.length=0 then 0 else acr g n (W.kn [g]).1+1
noncomputable def acs (g:cS):Nat→ae→ae
 | 0,W=>W
 | n+1,W=>if (W.kn [g]).2.length=0 then (W.kn [g]).1 else acs g n (W.kn [g]).1
def acq (W:ae) (id n:Int):Int:=if W.bh≠0 then W.bh else if n<0∨200<n then 1 else if ad7 W (fV id)=false then 7 else 0
noncomputable def aED (W:ae) (id:Int) (bd:ar) (n:Int):ae:=if acq W id n≠0 then ae.zero else acs ⟨id,⟨bd.x,bd.y⟩⟩ n.toNat W
noncomputable def aEC (W:ae) (id:Int) (bd:ar) (n:Int):Nat:=if acq W id n≠0 then 0 else acr ⟨id,⟨bd.x,bd.y⟩⟩ n.toNat W
theorem aqc (a:ae.b6) (W:ae) (w:World) (bs:ae.Has w a W):
  Calls prog 97 #[.agg ((ae.cells a W).toArray)] w (λ e w'=>∃ a':ae.b6,e= .returned (.agg (ae.cells a' W).toArray)∧bf w' w.heap.size a' W∧Ext w w'):=by
 refine cv (n:=26) func97 Z Z Z ?_;refine aj<|cI Z Z Z Z λ dw bC bg eY ab=> ?_;have:=bg.size;have br:=τ (Ext.bM w) bg;have eZ:=ab.lt;refine al Z l8 Z Z λ eB c_ bj iF ai=> ?_;have:=bj.size;have bS:=τ br bj;have iJ:=ai.lt;refine ah<|aj<|J (aw o5 Z)<|J (aw vt Z)<| ?_;have ab:=ab.later bj;refine J (ak Z (ab.one fl Z))<|ca A8 Z Z ((vl _ _ W.field.aP _ (bs.P.keep bS)).mono ?_);rintro e zV ⟨kL,kT,rfl,ed,anh,iL⟩;refine ⟨_,Z, ?_⟩;have:=iL.size;have lQ:=τ bS iL;have mv:=λ q I=>(ed.lt q I).2;have ox:=λ q I=>(ed.lt q I).1;refine J (aw o5 Z)<|J (aw vt Z)<| ?_;have ab:=ab.later iL;refine st (new:= [.int .i64 W.field.wide, .int .i64 W.field.high, .slice kL ((W.field.aP).length) kT, .slice a.B W.aY.length a.b, .slice a.S W.a_.length a.s, .slice a.M W.bm.length a.m, .slice a.T W.ag.length a.t, .int .i64 W.next, .int .i64 W.now]) Z Z ab Z yP Z Z Z λ xV jm ab=> ?_;have:=jm.size;have ks:=Ext.mod lQ jm (bR (by omega));have:=jm.size;refine ah<|aD<| ?_;refine rd [(1,0),(2,2),(4,0),(5,2),(7,3),(9,3)] [0,1,3,4,2,6,5,7,8,9] (by kernel_rfl) (by kernel_rfl) ?_;refine aq Z (λ _=>aw q3 Z)<|bD Z (λ _ x=>ak Z ((ab.later x).one tC Z))<|aq Z (λ _=>aw vv Z)<|bD Z (λ _ x=>ak Z ((ab.later x).one fl Z))<|gu Z Z Z λ sD dM Q hK=>ca Xt Z Z ((Oe _ _ W.aY _ (bs.B.keep (τ ks dM))).mono ?_);rintro e xW ⟨qF,qW,rfl,eO,ani,h'⟩;refine ⟨_,Z,hK _ _ ⟨τ dM h', ?_⟩⟩;have:=dM.size;have iM:=τ ks dM;have:=h'.size;have nt:=τ iM h';have v7:=λ q I=>(eO.lt q I).2;have rf:=λ q I=>(eO.lt q I).1;refine aq Z (λ _=>aw q3 Z)<|gu Z Z Z λ EE ju Q hK=>ca A8 Z Z ((vl _ _ W.a_ _ (bs.S.keep (τ nt ju))).mono ?_);rintro e uJ ⟨sS,tq,rfl,eP,anj,dQ⟩;refine ⟨_,Z,hK _ _ ⟨τ ju dQ, ?_⟩⟩;have:=ju.size;have qB:=τ nt ju;have:=dQ.size;have k7:=τ qB dQ;have n4:=λ q I=>(eP.lt q I).2;have oy:=λ q I=>(eP.lt q I).1;have ab:=ab.later (τ dM (τ h' (τ ju dQ)));refine fc Z Z Z λ xX fY Q hK=>st (new:= [.int .i64 W.field.wide, .int .i64 W.field.high, .slice kL ((W.field.aP).length) kT, .slice qF ((W.aY).length) qW, .slice a.S W.a_.length a.s, .slice a.M W.bm.length a.m, .slice a.T W.ag.length a.t, .int .i64 W.next, .int .i64 W.now]) Z Z (ab.later fY) Z Xu Z Z Z λ EG kh ab=>hK _ _ ?_;have:=fY.size;have jM:=τ k7 fY;have:=kh.size;have rK:=Ext.mod jM kh (bR (by omega));have:=kh.size;refine aq Z (λ _=>aw vv Z)<|fc Z Z Z λ EH gl Q hK=>st (new:= [.int .i64 W.field.wide, .int .i64 W.field.high, .slice kL ((W.field.aP).length) kT, .slice qF ((W.aY).length) qW, .slice sS ((W.a_).length) tq, .slice a.M W.bm.length a.m, .slice a.T W.ag.length a.t, .int .i64 W.next, .int .i64 W.now]) Z Z (ab.later gl) Z yP Z Z Z λ EI fD ab=>hK _ _ ?_;have:=gl.size;have nw:=τ rK gl;have:=fD.size;have n':=Ext.mod nw fD (bR (by omega));have:=fD.size;refine fn λ sF eU=> ?_;have:=eU.size;have jN:=τ n' eU;refine a6<|aD<| ?_;refine rd [(1,0),(2,2),(4,0),(5,2),(7,3),(9,3)] [0,1,3,4,2,6,5,7,8,9] (by kernel_rfl) (by kernel_rfl) ?_;refine aq Z (λ _=>aw A9 Z)<| ?_;have ab:=ab.later eU;refine bD Z (λ _ x=>ak Z ((ab.later x).one fl Z))<|aq Z (λ _=>aw iB Z)<|bD Z (λ _ x=>ak Z ((ab.later x).one jW Z))<|gu Z Z Z λ SK jK Q hK=>ca A8 Z Z ((vl _ _ W.bm _ (bs.M.keep (τ jN jK))).mono ?_);rintro e H8 ⟨wq,pZ,rfl,ht,ank,k4⟩;refine ⟨_,Z,hK _ _ ⟨τ jK k4, ?_⟩⟩;have:=jK.size;have Cy:=τ jN jK;have:=k4.size;have pP:=τ Cy k4;have Mj:=λ q I=>(ht.lt q I).2;have rh:=λ q I=>(ht.lt q I).1;refine aq Z (λ _=>aw A9 Z)<|gu Z Z Z λ SM k5 Q hK=>ca OL Z Z ((JJ _ _ W.ag _ (bs.T.keep (τ pP k5))).mono ?_);rintro e H9 ⟨Ap,yD,rfl,hy,anl,fy⟩;refine ⟨_,Z,hK _ _ ⟨τ k5 fy, ?_⟩⟩;have:=k5.size;have wk:=τ pP k5;have:=fy.size;have uT:=τ wk fy;have qo:=λ q I=>(hy.lt q I).2;have pk:=λ q I=>(hy.lt q I).1;have ab:=ab.later (τ jK (τ k4 (τ k5 fy)));refine fc Z Z Z λ adW mA Q hK=>st (new:= [.int .i64 W.field.wide, .int .i64 W.field.high, .slice kL ((W.field.aP).length) kT, .slice qF ((W.aY).length) qW, .slice sS ((W.a_).length) tq, .slice wq ((W.bm).length) pZ, .slice a.T W.ag.length a.t, .int .i64 W.next, .int .i64 W.now]) Z Z (ab.later mA) Z yP Z Z Z λ EJ h9 ab=>hK _ _ ?_;have:=mA.size;have Ix:=τ uT mA;have:=h9.size;have rP:=Ext.mod Ix h9 (bR (by omega));have:=h9.size;refine aq Z (λ _=>aw iB Z)<|fc Z Z Z λ Mv fF Q hK=>st (new:= [.int .i64 W.field.wide, .int .i64 W.field.high, .slice kL ((W.field.aP).length) kT, .slice qF ((W.aY).length) qW, .slice sS ((W.a_).length) tq, .slice wq ((W.bm).length) pZ, .slice Ap ((W.ag).length) yD, .int .i64 W.next, .int .i64 W.now]) Z Z (ab.later fF) Z J9 Z Z Z λ H_ mi ab=>hK _ _ ?_;have:=fF.size;have wm:=τ rP fF;have:=mi.size;have kt:=Ext.mod wm mi (bR (by omega));have:=mi.size;refine fn λ SQ fZ=> ?_;have:=fZ.size;have Cz:=τ kt fZ;refine a6<|aj<| ?_;have ab:=ab.later fZ;refine J (ak Z (ab.all dr b2))<| ?_;have ai:=ai.later iL;have ai:=ai.mod jm (bb (by omega));have ai:=ai.later (τ dM (τ h' (τ ju (τ dQ fY))));have ai:=ai.mod kh (bb (by omega));have ai:=ai.later gl;have ai:=ai.mod fD (bb (by omega));have ai:=ai.later (τ eU (τ jK (τ k4 (τ k5 (τ fy mA)))));have ai:=ai.mod h9 (bb (by omega));have ai:=ai.later fF;have ai:=ai.mod mi (bb (by omega));have ai:=ai.later fZ;refine st (new:= [.int .i64 W.field.wide, .int .i64 W.field.high, .slice kL ((W.field.aP).length) kT, .slice qF ((W.aY).length) qW, .slice sS ((W.a_).length) tq, .slice wq ((W.bm).length) pZ, .slice Ap ((W.ag).length) yD, .int .i64 W.next, .int .i64 W.now]) Z Z ai Z b2 Z Z Z λ SR nW ai=> ?_;have:=nW.size;have CA:=Ext.mod Cz nW (bR (by omega));have:=nW.size;refine ah<|rt<|bp (.cell Z (ai.all dr b2) .nil)<| ?_;have ed:=ed.mod jm (b9 ox (by omega));have ed:=ed.later (τ dM (τ h' (τ ju (τ dQ fY))));have ed:=ed.mod kh (b9 ox (by omega));have ed:=ed.later gl;have ed:=ed.mod fD (b9 ox (by omega));have ed:=ed.later (τ eU (τ jK (τ k4 (τ k5 (τ fy mA)))));have ed:=ed.mod h9 (b9 ox (by omega));have ed:=ed.later fF;have ed:=ed.mod mi (b9 ox (by omega));have ed:=ed.later fZ;have ed:=ed.mod nW (b9 ox (by omega));have eO:=eO.later (τ ju (τ dQ fY));have eO:=eO.mod kh (b9 rf (by omega));have eO:=eO.later gl;have eO:=eO.mod fD (b9 rf (by omega));have eO:=eO.later (τ eU (τ jK (τ k4 (τ k5 (τ fy mA)))));have eO:=eO.mod h9 (b9 rf (by omega));have eO:=eO.later fF;have eO:=eO.mod mi (b9 rf (by omega));have eO:=eO.later fZ;have eO:=eO.mod nW (b9 rf (by omega));have eP:=eP.later fY;have eP:=eP.mod kh (b9 oy (by omega));have eP:=eP.later gl;have eP:=eP.mod fD (b9 oy (by omega));have eP:=eP.later (τ eU (τ jK (τ k4 (τ k5 (τ fy mA)))));have eP:=eP.mod h9 (b9 oy (by omega));have eP:=eP.later fF;have eP:=eP.mod mi (b9 oy (by omega));have eP:=eP.later fZ;have eP:=eP.mod nW (b9 oy (by omega));have ht:=ht.later (τ k5 (τ fy mA));have ht:=ht.mod h9 (b9 rh (by omega));have ht:=ht.later fF;have ht:=ht.mod mi (b9 rh (by omega));have ht:=ht.later fZ;have ht:=ht.mod nW (b9 rh (by omega));have hy:=hy.later mA;have hy:=hy.mod h9 (b9 pk (by omega));have hy:=hy.later fF;have hy:=hy.mod mi (b9 pk (by omega));have hy:=hy.later fZ;have hy:=hy.mod nW (b9 pk (by omega));have hR:=bf.abC (aB:=w.heap.size) (ed.down (by omega)) (eO.down (by omega)) (eP.down (by omega)) (ht.down (by omega)) (hy.down (by omega)) (λ q γ aa=>by exfalso;(have:=rf q γ;(have:=mv q aa;omega))) (λ q γ aa=>by exfalso;(have:=oy q γ;(have:=mv q aa;omega))) (λ q γ aa=>by exfalso;(have:=oy q γ;(have:=v7 q aa;omega))) (λ q γ aa=>by exfalso;(have:=rh q γ;(have:=mv q aa;omega))) (λ q γ aa=>by exfalso;(have:=rh q γ;(have:=v7 q aa;omega))) (λ q γ aa=>by exfalso;(have:=rh q γ;(have:=n4 q aa;omega))) (λ q γ aa=>by exfalso;(have:=pk q γ;(have:=mv q aa;omega))) (λ q γ aa=>by exfalso;(have:=pk q γ;(have:=v7 q aa;omega))) (λ q γ aa=>by exfalso;(have:=pk q γ;(have:=n4 q aa;omega))) (λ q γ aa=>by exfalso;(have:=pk q γ;(have:=Mj q aa;omega))) bs.nums;exact ⟨⟨kL,qF,sS,wq,Ap,kT,qW,tq,pZ,yD⟩,Z,hR,CA⟩
theorem aqd (a:ae.b6) (W:ae) (A:Option Addr) (c:Nat) (l:List cS) (w:World) (bs:ae.Has w a W) (az:cS.rep.aH 24 w A c l):
  Calls prog 62 #[.agg ((ae.cells a W).toArray), .slice A l.length c] w (λ e w'=>∃ a' bH bW,e= .returned (.tuple #[.agg (ae.cells a' (fN W l)).toArray, .slice bH (mj W l).length bW, .int .i64 (px W l)])∧bf w' w.heap.size a' (fN W l)∧bz.aF 3 8 w' w.heap.size (κ.af bH) bH bW (mj W l)∧(∀ q∈κ.af bH,q∉bf.b4 a')∧Ext w w'):=by
 refine cv (n:=26) func62 Z Z Z ?_;refine aj<|cI Z Z Z Z λ dw bC bg eY ab=> ?_;have:=bg.size;have br:=τ (Ext.bM w) bg;have eZ:=ab.lt;refine al Z l8 Z Z λ eB c_ bj iF ai=> ?_;have:=bj.size;have bS:=τ br bj;have iJ:=ai.lt;refine va Z<|va Z<|ah<|aD<|aj<| ?_;have ab:=ab.later bj;refine J (ak Z (ab.all dr b2))<|ca Df Z Z ((yF a W _ (bs.keep bS)).mono ?_);rintro e iW ⟨rfl,hl⟩;refine ⟨_,Z, ?_⟩;have:=hl.size;have dp:=τ bS hl;refine va Z<|ah<|aj<|vm Z<|J (bne Z Z)<|ah<| ?_;refine hg Z (λ oi=> ?_) (λ oi=> ?_)
 ·refine aj<|J (v:= .agg #[.int .i64 0, .int .i64 0, .slice none 0 0, .slice none 0 0, .slice none 0 0, .slice none 0 0, .slice none 0 0, .int .i64 0, .int .i64 0]) (cO Z (by kernel_rfl))<|vm Z<| ?_;have ai:=ai.later hl;refine st (new:= [.int .i64 0, .int .i64 0, .slice none 0 0, .slice none 0 0, .slice none 0 0, .slice none 0 0, .slice none 0 0, .int .i64 0, .int .i64 0]) Z Z ai Z b2 Z Z Z λ ED jZ ai=> ?_;have:=jZ.size;have rJ:=Ext.mod dp jZ (bR (by omega));have:=jZ.size;refine va Z<|va Z<|ah<|rt<|cf<|bp (.cell Z (ai.all dr b2) (.tmp Z (.tmp Z .nil)))<| ?_;obtain ⟨aU,bc,cy⟩:=abk (l:=l) oi;exact ⟨⟨none,none,none,none,none,0,0,0,0,0⟩,none,0,by rw [aU,bc,cy];rfl,by rw [bc];exact bf.zero _ _,by rw [cy];exact κ.aF.nil _,λ q I=>by simp [κ.af] at I,rJ⟩
 ·have bq:=Good.zD oi;have Bz:=bq.eo;refine bx<|aD<|aj<|vm Z<|J (cW underlying124 Z)<|J (jC Z Z)<|ah<| ?_;refine ef Z (λ tK=> ?_) (λ tK=> ?_)
  ·refine aj<|J (v:= .agg #[.int .i64 0, .int .i64 0, .slice none 0 0, .slice none 0 0, .slice none 0 0, .slice none 0 0, .slice none 0 0, .int .i64 0, .int .i64 0]) (cO Z (by kernel_rfl))<| ?_;have ai:=ai.later hl;refine st (new:= [.int .i64 0, .int .i64 0, .slice none 0 0, .slice none 0 0, .slice none 0 0, .slice none 0 0, .slice none 0 0, .int .i64 0, .int .i64 0]) Z Z ai Z b2 Z Z Z λ zW rj ai=> ?_;have:=rj.size;have nr:=Ext.mod dp rj (bR (by omega));have:=rj.size;refine va Z<|va Z<|ah<|rt<|cf<|bp (.cell Z (ai.all dr b2) (.tmp Z (.tmp Z .nil)))<| ?_;obtain ⟨aU,bc,cy⟩:=abl (l:=l) oi (by omega);exact ⟨⟨none,none,none,none,none,0,0,0,0,0⟩,none,0,by rw [aU,bc,cy];rfl,by rw [bc];exact bf.zero _ _,by rw [cy];exact κ.aF.nil _,λ q I=>by simp [κ.af] at I,nr⟩
  ·refine bx<|aj<| ?_;have ab:=ab.later hl;refine J (ak Z (ab.all dr b2))<|ca aiW Z Z ((aqc a W _ (bs.keep dp)).mono ?_);rintro e zX ⟨a28,rfl,Fk,gM⟩;refine ⟨_,Z, ?_⟩;have:=gM.size;have nu:=τ dp gM;have Mh:=λ q I=>(Fk.lt q I).2;have DX:=λ q I=>(Fk.lt q I).1;have ab:=ab.later gM;refine st Z Z ab Z b2 Z Z Z λ EE il ab=> ?_;have:=il.size;have qB:=Ext.mod nu il (bR (by omega));have:=il.size;refine ah<|aj<|J (ak Z (ab.all dr b2))<|vm Z<| ?_;have Fk:=Fk.mod il (b9 DX (by omega));refine ca aiX Z Z ((aqe _ a28 W _ _ l _ Fk (az.keep qB) (λ aE q I Φ=>by have γ:=az.apK (by decide) aE q I;have aa:=DX q (og Φ);omega) (by omega)).mono ?_);rintro e Mr ⟨aey,ag0,rfl,Fq,I0,zx⟩;refine ⟨_,Z, ?_⟩;have:=zx.size;have uS:=Ext.mod qB zx (λ q I=>by have cA:=DX q (og I);omega);rw [atx a28 W l] at ab;have v8:=λ q I=>(Fq.lt q I).2;have aa5:=λ q I=>(Fq.lt q I).1;have xP:=λ q I=>(I0.lt q I).2;have aAa:=Sj W l;refine va Z<|ah<|aj<| ?_;have vp:∀ q∈κ.af a28.T,q=bC→False:=λ q I Φ=>by (have:=DX q (og I);omega)
   have ab:=ab.mod zx (λ I=>vp _ I rfl);refine J (ak Z (ab.all dr b2))<|vm Z<| ?_;have ai:=ai.later (τ hl gM);have ai:=ai.mod il (bb (by omega));have vq:∀ q∈κ.af a28.T,q=c_→False:=λ q I Φ=>by (have:=DX q (og I);omega)
   have ai:=ai.mod zx (λ I=>vq _ I rfl);refine st Z Z ai Z b2 Z Z Z λ avf vF ai=> ?_;have:=vF.size;have Tm:=Ext.mod uS vF (bR (by omega));have:=vF.size;refine va Z<|va Z<|ah<|rt<|bp (.cell Z (ai.all dr b2) (.tmp Z (.tmp Z .nil)))<| ?_;have I0:=I0.mod vF (b9 DX (by omega));have Fq:=Fq.mod vF (b9 aa5 (by omega));obtain ⟨aU,bc,cy⟩:=Lu (l:=l) oi (by omega);exact ⟨a28,aey,ag0,by rw [aU,bc,cy];rfl,by rw [bc];exact I0.down (by omega),by rw [cy];exact Fq.down (by omega),λ q I hf=>by (have:=aa5 q I;(have:=Mh q hf;omega)),Tm⟩
end
section
open Go.RowKit
structure b1 where
 kind:Int
 aL:Int
 spot:ar
 what:Int
 deriving DecidableEq,Inhabited
namespace b1
def cells (a:b1):List Value:= [.int .i64 (a.kind), .int .i64 (a.aL), .int .i64 (a.spot.x), .int .i64 (a.spot.y), .int .i64 (a.what)]
def ok (a:b1):Prop:=(Lit.int .i64 a.kind).wf=true∧(Lit.int .i64 a.aL).wf=true∧(Lit.int .i64 a.spot.x).wf=true∧(Lit.int .i64 a.spot.y).wf=true∧(Lit.int .i64 a.what).wf=true
def raw (j:Nat) (u:Value):Prop:=match j with
 | 0=>∃ n:Int,u= .int .i64 n
 | 1=>∃ n:Int,u= .int .i64 n
 | 2=>∃ n:Int,u= .int .i64 n
 | 3=>∃ n:Int,u= .int .i64 n
 | 4=>∃ n:Int,u= .int .i64 n
 | _=>True
theorem qY (a:b1):∀ (j:Nat) u,a.cells[j]? =some u→raw j u:=by
 intro j u hu
 match j,hu with
 | 0,hu=>exact ⟨_,(Option.some.inj hu).symm⟩
 | 1,hu=>exact ⟨_,(Option.some.inj hu).symm⟩
 | 2,hu=>exact ⟨_,(Option.some.inj hu).symm⟩
 | 3,hu=>exact ⟨_,(Option.some.inj hu).symm⟩
 | 4,hu=>exact ⟨_,(Option.some.inj hu).symm⟩
 | j+5,hu=>exact trivial
theorem qX (a:b1):∀ u∈a.cells,u.oneCell'=true:=by
 intro u hu;unfold cells at hu;simp only [List.mem_cons,List.not_mem_nil,or_false] at hu;rcases hu with rfl | rfl | rfl | rfl | rfl<;>rfl
def rep:κ b1:=κ.flat 5 cells ok raw (λ _=>rfl) qX qY
def zero:Value:= .agg #[.int .i64 0, .int .i64 0, .int .i64 0, .int .i64 0, .int .i64 0]
theorem lS:∀ (j:Nat) u,zero.cells[j]? =some u→rep.raw j u:=by
 intro j u hu;have hu:(#[(.int .i64 0:Value),(.int .i64 0:Value),(.int .i64 0:Value),(.int .i64 0:Value),(.int .i64 0:Value)]:Array Value)[j]? =some u:=hu
 match j,hu with
 | 0,hu=>exact ⟨_,(Option.some.inj hu).symm⟩
 | 1,hu=>exact ⟨_,(Option.some.inj hu).symm⟩
 | 2,hu=>exact ⟨_,(Option.some.inj hu).symm⟩
 | 3,hu=>exact ⟨_,(Option.some.inj hu).symm⟩
 | 4,hu=>exact ⟨_,(Option.some.inj hu).symm⟩
 | j+5,hu=>cases hu
theorem info:(prog.info? 178).map (λ i=>(i.zero,i.size,i.bytes))=some (some zero,5,40):=by kernel_rfl
def sh:fr:=(.cons (.int .i64) (.cons (.int .i64) (.cons (.cons (.int .i64) (.cons (.int .i64) .nil)) (.cons (.int .i64) .nil))))
end b1
theorem amh {w:World} {cs:List Value} {a:b1} (h:b1.rep.has w cs a):cs=a.cells:=And.left (show cs=a.cells∧a.ok from h)
end
section
open Go.RowKit
def beside (a b:ar):Bool:=cw b.x (a.x - 1) (a.x+1) && cw b.y (a.y - 1) (a.y+1)
namespace ae
def place (W:ae) (c:ar):Nat:=(c.y * W.field.wide+c.x).toNat
def oe (t:aW) (n:Int):aW:= {t with load:=t.load+n}
def lA (W:ae) (d:b1):Option ae :=
 match W.ag.findIdx? (fV d.aL) with
 | none=>none
 | some k =>
  let t:=W.ag.getD k default
  let m:=W.bm.getD (W.place d.spot) 0
  if t.kind == 1 && decide (t.load<5) && beside t.spot d.spot && W.field.ek d.spot && m != 0 then
   some {W with bm:=W.bm.set (W.place d.spot) (m - 1),ag:=W.ag.set k (oe t 1)}
  else none
def drop (W:ae) (d:b1):Option ae :=
 match W.ag.findIdx? (fV d.aL) with
 | none=>none
 | some k =>
  let t:=W.ag.getD k default
  let o:=t.owner.toNat
  let s:=W.a_.getD o 0
  let n:=min t.load (1000000 - s)
  if t.load != 0 && beside (W.aY.getD o default) t.spot && decide (0<n) then
   some {W with a_:=W.a_.set o (s+n),ag:=W.ag.set k (oe t (-n))}
  else none
def around (c:ar):List ar :=
 [c,⟨c.x - 1,c.y - 1⟩,⟨c.x,c.y - 1⟩,⟨c.x+1,c.y - 1⟩,⟨c.x - 1,c.y⟩,⟨c.x,c.y⟩,⟨c.x+1,c.y⟩,⟨c.x - 1,c.y+1⟩,⟨c.x,c.y+1⟩,⟨c.x+1,c.y+1⟩]
def zF (W:ae) (c:ar):Bool:=W.field.ground c && !W.ag.any (ov c)
def free (W:ae) (c:ar):Option ar:=(around c).find? W.zF
def pd (W:ae) (d:b1):Option ae :=
 let s:=W.a_.getD d.aL.toNat 0
 if cw d.aL 0 ((W.aY.length:Int) - 1) && cw d.what 1 2 && decide (jo d.what≤s) && decide (W.ag.length<100) && decide (W.next<1000000) then
  match W.free (W.aY.getD d.aL.toNat default) with
  | none=>none
  | some c=>some {W with ag:=W.ag++ [⟨W.next,d.aL,d.what,c,iG d.what,0⟩],next:=W.next+1,a_:=W.a_.set d.aL.toNat (s - jo d.what)}
 else none
def jV (W:ae) (d:b1):Option ae:=if d.kind=1 then W.lA d else if d.kind=2 then W.drop d else if d.kind=3 then W.pd d else none
def gC (W:ae):List b1→ae×List Bool
 | []=>(W, [])
 | d::l=>match W.jV d with
  | some V=>((V.gC l).1,true::(V.gC l).2)
  | none=>((W.gC l).1,false::(W.gC l).2)
end ae
theorem Dl {l:List aW} {id:Int} {k:Nat} (h:l.findIdx? (fV id)=some k):∃ t,l[k]? =some t∧t.id=id∧l.getD k default=t:=by
 obtain ⟨γ,aa,_⟩:=List.findIdx?_eq_some_iff_getElem.1 h;exact ⟨l[k],List.getElem?_eq_getElem γ,by simpa [fV] using aa,by rw [List.getD_eq_getElem?_getD,List.getElem?_eq_getElem γ];rfl⟩
theorem ati {W V:ae} {k:Nat} {t u:aW} (p7:V.ag=W.ag.set k u) (aA:W.ag[k]? =some t) (hs:u.spot=t.spot) (i:Nat):V.hM i=W.hM i:=by
 unfold ae.hM;rw [p7,List.take_set,List.map_set];by_cases nO:k<i
 ·have γ:((W.ag.take i).map (·.spot))[k]? =some t.spot:=by rw [List.getElem?_map,List.getElem?_take,if_pos nO,aA];rfl
  obtain ⟨aa,au⟩:=List.getElem?_eq_some_iff.1 γ;rw [hs,← au];exact List.set_getElem_self _
 ·rw [List.set_eq_of_length_le (by rw [List.length_map,List.length_take];omega)]
theorem apb {W V:ae} {k:Nat} {t u:aW} (p7:V.ag=W.ag.set k u) (aA:W.ag[k]? =some t) (hs:u.id=t.id) (i:Nat):V.ik i=W.ik i:=by
 unfold ae.ik;by_cases ao:i=0
 ·rw [if_pos ao,if_pos ao]
 ·rw [if_neg ao,if_neg ao,p7,List.getD_eq_getElem?_getD,List.getD_eq_getElem?_getD];by_cases av:k=i - 1
  ·subst av;rw [List.getElem?_set_self (List.getElem?_eq_some_iff.1 aA).1,aA];exact hs
  ·rw [List.getElem?_set_ne av]
theorem NR {W V:ae} {k:Nat} {t u:aW} (p7:V.ag=W.ag.set k u) (aA:W.ag[k]? =some t) {i:Nat} {x:aW} (hx:V.ag[i]? =some x):(i=k∧x=u)∨(i≠k∧W.ag[i]? =some x):=by
 rw [p7] at hx;by_cases av:k=i
 ·subst av;rw [List.getElem?_set_self (List.getElem?_eq_some_iff.1 aA).1] at hx;exact .inl ⟨Z,(Option.some.inj hx).symm⟩
 ·rw [List.getElem?_set_ne av] at hx;exact .inr ⟨Ne.symm av,hx⟩
theorem Good.turned {W V:ae} (h:Good W) {k:Nat} {t:aW} {n:Int} (aA:W.ag[k]? =some t) (p7:V.ag=W.ag.set k (ae.oe t n)) (az:0≤t.load+n∧t.load+n≤ae.xD t.kind)
  (hf:V.field=W.field) (Φ:V.aY=W.aY) (hn:V.next=W.next) (hw:V.now=W.now)
  (p':V.a_.length=W.a_.length) (hs:∀ (i:Nat) s,V.a_[i]? =some s→0≤s∧s≤1000000)
  (Bw:V.bm.length=W.bm.length) (hm:∀ (i:Nat) m,V.bm[i]? =some m→0≤m∧m≤1000000∧(m≤0∨W.field.aP.getD i 0=3)):Good V:=by
 have γ:=h.ag k t aA;have hlen:V.ag.length=W.ag.length:=by rw [p7,List.length_set]
 refine ⟨by rw [hf];exact h.field,by rw [Φ];exact h.jn,by rw [hlen];exact h.eo,by rw [p',Φ];exact h.sl, ?_,hs,by rw [Bw,hf];exact h.uu,by rw [hf];exact hm,λ i x hx=> ?_,λ i x hx=> ?_,λ i x hx=> ?_,by rw [hn];exact h.next,by rw [hw];exact h.now⟩
 ·rw [Φ,hf];exact h.aY
 ·rw [hf,Φ];rcases NR p7 aA hx with ⟨rfl,rfl⟩ | ⟨_,hx⟩
  ·exact ⟨γ.kind,γ.owner,γ.ground,γ.cG,az⟩
  ·exact h.ag i x hx
 ·rw [apb p7 aA rfl,hn];rcases NR p7 aA hx with ⟨rfl,rfl⟩ | ⟨_,hx⟩
  ·exact h.ids i t aA
  ·exact h.ids i x hx
 ·rw [ati p7 aA rfl];rcases NR p7 aA hx with ⟨rfl,rfl⟩ | ⟨_,hx⟩
  ·exact h.hM i t aA
  ·exact h.hM i x hx
theorem ap4 {W V:ae} {d:b1} (h:W.lA d=some V):∃ (k:Nat) (t:aW),W.ag.findIdx? (fV d.aL)=some k∧W.ag[k]? =some t∧t.id=d.aL∧t.kind=1∧t.load<5∧beside t.spot d.spot=true∧W.field.ek d.spot=true∧W.bm.getD (W.place d.spot) 0≠0∧
  V= {W with bm:=W.bm.set (W.place d.spot) (W.bm.getD (W.place d.spot) 0 - 1),ag:=W.ag.set k (ae.oe t 1)}:=by
 unfold ae.lA at h;cases hf:W.ag.findIdx? (fV d.aL) with
 | none=>rw [hf] at h;cases h
 | some k =>
  rw [hf] at h;obtain ⟨t,aA,hid,aO⟩:=Dl hf;simp only [aO] at h;split at h
  ·rename_i hc
   simp only [Bool.and_eq_true,decide_eq_true_eq,bne_iff_ne,beq_iff_eq] at hc;exact ⟨k,t,Z,aA,hid,hc.1.1.1.1,hc.1.1.1.2,hc.1.1.2,hc.1.2,hc.2,(Option.some.inj h).symm⟩
  ·cases h
theorem aiJ {W V:ae} {d:b1} (h:W.drop d=some V):∃ (k:Nat) (t:aW) (n:Int),W.ag.findIdx? (fV d.aL)=some k∧W.ag[k]? =some t∧t.id=d.aL∧t.load≠0∧beside (W.aY.getD t.owner.toNat default) t.spot=true∧n=min t.load (1000000 - W.a_.getD t.owner.toNat 0)∧0<n∧
  V= {W with a_:=W.a_.set t.owner.toNat (W.a_.getD t.owner.toNat 0+n),ag:=W.ag.set k (ae.oe t (-n))}:=by
 unfold ae.drop at h;cases hf:W.ag.findIdx? (fV d.aL) with
 | none=>rw [hf] at h;cases h
 | some k =>
  rw [hf] at h;obtain ⟨t,aA,hid,aO⟩:=Dl hf;simp only [aO] at h;split at h
  ·rename_i hc
   simp only [Bool.and_eq_true,decide_eq_true_eq,bne_iff_ne] at hc;exact ⟨k,t,_,Z,aA,hid,hc.1.1,hc.1.2,Z,hc.2,(Option.some.inj h).symm⟩
  ·cases h
theorem amN {W V:ae} {d:b1} (h:W.pd d=some V):∃ c:ar,W.free (W.aY.getD d.aL.toNat default)=some c∧0≤d.aL∧d.aL<(W.aY.length:Int)∧(d.what=1∨d.what=2)∧ae.jo d.what≤W.a_.getD d.aL.toNat 0∧W.ag.length<100∧W.next<1000000∧
  V= {W with ag:=W.ag++ [⟨W.next,d.aL,d.what,c,ae.iG d.what,0⟩],next:=W.next+1,a_:=W.a_.set d.aL.toNat (W.a_.getD d.aL.toNat 0 - ae.jo d.what)}:=by
 unfold ae.pd at h;simp only at h;split at h
 ·rename_i hc
  simp only [Bool.and_eq_true,decide_eq_true_eq] at hc;have a:=jk hc.1.1.1.1;have b:=jk hc.1.1.1.2;split at h
  ·cases h
  ·rename_i c lp
   exact ⟨c,lp,a.1,by omega,by omega,hc.1.1.2,hc.1.2,hc.2,(Option.some.inj h).symm⟩
 ·cases h
theorem ary (k:Int):0≤ae.jo k:=by unfold ae.jo;split<;>(try split)<;>omega
theorem Good.lA {W V:ae} {d:b1} (h:Good W) (hd:W.lA d=some V):Good V:=by
 obtain ⟨k,t,_,aA,_,av,az,_,cM,Bv,rfl⟩:=ap4 hd;have γ:=h.ag k t aA;have anc:ae.xD t.kind=5:=by rw [av];rfl
 obtain ⟨i1,i2,_⟩:=aC.idx h.field cM;have bl:W.place d.spot<W.bm.length:=by rw [h.uu];unfold ae.place;omega
 obtain ⟨m,hm⟩:=gg bl;have aa:=h.bm _ m hm;have aO:W.bm.getD (W.place d.spot) 0=m:=by rw [List.getD_eq_getElem?_getD,hm];rfl
 rw [aO] at Bv ⊢;refine h.turned aA Z (by have:=γ.load;omega) Z Z Z Z Z h.a_ (by simp) λ i x hx=> ?_;simp only at hx;by_cases ao:W.place d.spot=i
 ·subst ao;rw [List.getElem?_set_self bl] at hx;obtain rfl:=Option.some.inj hx;refine ⟨by omega,by omega, ?_⟩;rcases aa.2.2 with au | au
  ·omega
  ·exact .inr au
 ·rw [List.getElem?_set_ne ao] at hx;exact h.bm i x hx
theorem Good.drop {W V:ae} {d:b1} (h:Good W) (hd:W.drop d=some V):Good V:=by
 obtain ⟨k,t,n,_,aA,_,az,_,hn,Zh,rfl⟩:=aiJ hd;have γ:=h.ag k t aA;have bl:t.owner.toNat<W.a_.length:=by rw [h.sl];have:=γ.owner;omega
 obtain ⟨s,hs⟩:=gg bl;have aa:=h.a_ _ s hs;have aO:W.a_.getD t.owner.toNat 0=s:=by rw [List.getD_eq_getElem?_getD,hs];rfl
 rw [aO] at hn ⊢;refine h.turned aA Z (by have:=γ.load;omega) Z Z Z Z (by simp) (λ i x hx=> ?_) Z h.bm;simp only at hx;by_cases ao:t.owner.toNat=i
 ·subst ao;rw [List.getElem?_set_self bl] at hx;obtain rfl:=Option.some.inj hx;omega
 ·rw [List.getElem?_set_ne ao] at hx;exact h.a_ i x hx
theorem Good.pd {W V:ae} {d:b1} (h:Good W) (hd:W.pd d=some V):Good V:=by
 obtain ⟨c,lp,an4,mS,av,hp,Bz,sg,rfl⟩:=amN hd;have si:=List.find?_some lp;unfold ae.zF at si;rw [Bool.and_eq_true] at si;have nK:∀ t∈W.ag,t.spot≠c:=λ t aA he=>by
  have:=si.2;rw [Bool.not_eq_true',List.any_eq_false] at this;exact this t aA (by simp [ov,he])
 have bl:d.aL.toNat<W.a_.length:=by rw [h.sl];omega
 obtain ⟨s,hs⟩:=gg bl;have aa:=h.a_ _ s hs;have aO:W.a_.getD d.aL.toNat 0=s:=by rw [List.getD_eq_getElem?_getD,hs];rfl
 rw [aO] at hp ⊢;have K4:=ary d.what;have hn:=h.next;have rb:∀ i,i≤W.ag.length→ae.hM {W with ag:=W.ag++ [⟨W.next,d.aL,d.what,c,ae.iG d.what,0⟩],next:=W.next+1,a_:=W.a_.set d.aL.toNat (s - ae.jo d.what)} i=W.hM i:=λ i ao=>by
  unfold ae.hM;simp only;rw [List.take_append_of_le_length ao]
 have KQ:∀ i,i≤W.ag.length→ae.ik {W with ag:=W.ag++ [⟨W.next,d.aL,d.what,c,ae.iG d.what,0⟩],next:=W.next+1,a_:=W.a_.set d.aL.toNat (s - ae.jo d.what)} i=W.ik i:=λ i ao=>by
  unfold ae.ik;simp only;by_cases aE:i=0
  ·rw [if_pos aE,if_pos aE]
  ·rw [if_neg aE,if_neg aE,List.getD_eq_getElem?_getD,List.getD_eq_getElem?_getD,List.getElem?_append_left (by omega)]
 have dz:∀ (i:Nat) x,(W.ag++ [(⟨W.next,d.aL,d.what,c,ae.iG d.what,0⟩:aW)])[i]? =some x→(i<W.ag.length∧W.ag[i]? =some x)∨(i=W.ag.length∧x=⟨W.next,d.aL,d.what,c,ae.iG d.what,0⟩):=λ i x hx=>by
  by_cases ao:i<W.ag.length
  ·rw [List.getElem?_append_left ao] at hx;exact .inl ⟨ao,hx⟩
  ·rw [List.getElem?_append_right (by omega)] at hx;have aE:i - W.ag.length=0:=by
    have:=(List.getElem?_eq_some_iff.1 hx).1;simp at this;omega
   rw [aE] at hx;exact .inr ⟨by omega,by simpa using hx.symm⟩
 have KR:W.ik W.ag.length<W.next∧0≤W.ik W.ag.length:=by
  by_cases aE:W.ag.length=0
  ·rw [aE];exact ⟨by show (0:Int)<_;omega,Int.le_refl _⟩
  ·obtain ⟨t,aA⟩:=gg (l:=W.ag) (i:=W.ag.length - 1) (by omega);have a1:=h.ids _ t aA;have e:W.ik W.ag.length=t.id:=by
    unfold ae.ik;rw [if_neg aE,List.getD_eq_getElem?_getD,aA];rfl
   rw [e];omega
 refine ⟨h.field,h.jn,by simp;omega,by simp;exact h.sl,h.aY,λ i x hx=> ?_,h.uu,h.bm,λ i x hx=> ?_,λ i x hx=> ?_,λ i x hx=> ?_,by simp only;omega,h.now⟩
 ·simp only at hx;by_cases ao:d.aL.toNat=i
  ·subst ao;rw [List.getElem?_set_self bl] at hx;obtain rfl:=Option.some.inj hx;omega
  ·rw [List.getElem?_set_ne ao] at hx;exact h.a_ i x hx
 ·rcases dz i x hx with ⟨_,hx⟩ | ⟨_,rfl⟩
  ·exact h.ag i x hx
  ·exact ⟨av,⟨an4,mS⟩,si.1,by simp only;rcases av with h | h<;>rw [h]<;>decide,by simp only;rcases av with h | h<;>rw [h]<;>decide⟩
 ·rcases dz i x hx with ⟨ao,hx⟩ | ⟨rfl,rfl⟩
  ·rw [KQ i (by omega)];have:=h.ids i x hx;simp only;omega
  ·rw [KQ _ (Nat.le_refl _)];simp only;omega
 ·rcases dz i x hx with ⟨ao,hx⟩ | ⟨rfl,rfl⟩
  ·rw [rb i (by omega)];exact h.hM i x hx
  ·rw [rb _ (Nat.le_refl _)];simp only;cases hc:(W.hM W.ag.length).contains c with
   | false=>rfl
   | true =>
    rw [List.contains_iff_mem] at hc;unfold ae.hM at hc;obtain ⟨t,aA,he⟩:=List.mem_map.1 hc;exact absurd he (nK t (List.mem_of_mem_take aA))
theorem Good.jV {W V:ae} {d:b1} (h:Good W) (hd:W.jV d=some V):Good V:=by
 unfold ae.jV at hd;split at hd
 ·exact h.lA hd
 ·split at hd
  ·exact h.drop hd
  ·split at hd
   ·exact h.pd hd
   ·cases hd
theorem Good.gC {W:ae} (h:Good W):∀ l:List b1,Good (W.gC l).1:=by
 intro l;induction l generalizing W with
 | nil=>exact h
 | cons d l bk =>
  unfold ae.gC;cases hd:W.jV d with
  | none=>exact bk h
  | some V=>exact bk (h.jV hd)
end
section
open Go.RowKit
structure j' (w:World) (aB S:Nat) (a:ae.b6) (W:ae):Prop where
 eu:aK w S (ae.cells a W) 176 (0,0)
 own:bf w aB a W
 aT:S∉bf.b4 a
 low:aB≤S
theorem j'.later {w w':World} {aB S:Nat} {a:ae.b6} {W:ae} (h:j' w aB S a W) (Φ:Below w.heap.size w w'):j' w' aB S a W:=⟨h.eu.later Φ,h.own.later Φ,h.aT,h.low⟩
theorem VE (a b:ar) (w:World) (γ:0≤a.x) (aa:a.x≤40) (au:0≤a.y) (a1:a.y≤40):
  Calls prog 169 #[.agg #[.int .i64 a.x, .int .i64 a.y], .agg #[.int .i64 b.x, .int .i64 b.y]] w λ e w'=>e= .returned (.bool (beside a b))∧Below w.heap.size w w':=by
 have cr:=jR w (.cells #[.int .i64 a.x, .int .i64 a.y] 49);have cF:=jR (w.alloc (.cells #[.int .i64 a.x, .int .i64 a.y] 49)) (.cells #[.int .i64 b.x, .int .i64 b.y] 49);have Φ:=cr.trans (cF.mono cr.size);unfold beside;clear cr cF;rcases Int.lt_or_le b.x (a.x - 1) with c1 | c1
 ·rw [nT (.inl c1)];have d1:decide (a.x - 1≤b.x)=false:=by simp;omega
  go_enter func169,ntmps169;go_wp2
  go_ret;exact ⟨Z,Φ⟩
 ·have d1:decide (a.x - 1≤b.x)=true:=by simp;omega
  rcases Int.lt_or_le (a.x+1) b.x with c2 | c2
  ·rw [nT (n:=b.x) (.inr c2)];have d2:decide (b.x≤a.x+1)=false:=by simp;omega
   go_enter func169,ntmps169;go_wp2
   go_ret;exact ⟨gD (by simp<;>omega),Φ⟩
  ·have d2:decide (b.x≤a.x+1)=true:=by simp;omega
   rw [mU (n:=b.x) c1 c2];rcases Int.lt_or_le b.y (a.y - 1) with c3 | c3
   ·rw [nT (.inl c3)];have d3:decide (a.y - 1≤b.y)=false:=by simp;omega
    go_enter func169,ntmps169;go_wp2
    go_ret;exact ⟨gD (by simp<;>omega),Φ⟩
   ·have d3:decide (a.y - 1≤b.y)=true:=by simp;omega
    rcases Int.lt_or_le (a.y+1) b.y with c4 | c4
    ·rw [nT (n:=b.y) (.inr c4)];have d4:decide (b.y≤a.y+1)=false:=by simp;omega
     go_enter func169,ntmps169;go_wp2
     go_ret;exact ⟨gD (by simp<;>omega),Φ⟩
    ·have d4:decide (b.y≤a.y+1)=true:=by simp;omega
     rw [mU (n:=b.y) c3 c4];go_enter func169,ntmps169;go_wp2
     go_ret;exact ⟨gD (by simp<;>omega),Φ⟩
theorem atT (t:aW) (id:Int) (g:Nat) (w:World) (aO:w.cell? ⟨g,0,none⟩=some (.int .i64 id)):
  Calls prog 201 #[.agg #[.int .i64 t.id, .int .i64 t.owner, .int .i64 t.kind, .int .i64 t.spot.x, .int .i64 t.spot.y, .int .i64 t.cG, .int .i64 t.load], .pointer (some ⟨g,0,none⟩)] w λ e w'=>e= .returned (.bool (fV id t))∧Below w.heap.size w w':=by
 have Φ:=jR w (.cells #[.int .i64 t.id, .int .i64 t.owner, .int .i64 t.kind, .int .i64 t.spot.x, .int .i64 t.spot.y, .int .i64 t.cG, .int .i64 t.load] 66);have bl:=World.block_lt_of_cell? w _ aO;simp only at bl;go_enter func201,ntmps201;go_wp2_with fail
 go_ret;exact ⟨Z,Φ⟩
theorem aor (id:Int) (g:Nat) (A:Option Addr) (c:Nat) (l:List aW) (w:World) (az:aW.rep.aH 56 w A c l) (aO:w.cell? ⟨g,0,none⟩=some (.int .i64 id)):
  Calls prog 200 #[.slice A l.length c, .func (.func 201) #[] #[.pointer (some ⟨g,0,none⟩)]] w λ e w'=>e= .returned (.int .i64 (gh (fV id) l))∧Below w.heap.size w w':=by
 obtain ⟨n,hn⟩:∃ n,l.length=n:=⟨_,rfl⟩;have hle:n≤9223372036854775807:=by have:=az.1;have:=az.2.1;omega
 rw [hn];have ob:=Lib.hid az;have e4:=Lib.hid hn;clear az hn;go_enter func200,ntmps200;go_wp2_with fail
 go_loopw [5,8] (λ _ fW wr=>∃ k:Nat,k≤n∧fW= .int .i64 (k:Int)∧Hid (∀ j (ay:j<k) (pe:j<l.length),(fV id) l[j]=false)∧Below w.heap.size w wr) (λ _ fW _=>n - (intOf fW).toNat)
 case atStart=>exact ⟨0,Nat.zero_le _,rfl,(λ j ay=>by omega),Below.refl _ _⟩
 case round =>
  obtain ⟨k,av,rfl,gA,Φ⟩:=hrel;by_cases bl:k<n
  ·have hE:k<l.length:=by rw [e4.out];exact bl
   obtain ⟨b,o,rfl,h5⟩:=aW.at_ (ob.out.keep Φ) (by omega);obtain ⟨x,pj⟩:∃ x,l[k]'hE=x:=⟨_,rfl⟩;obtain ⟨kZ,j1,nd,xJ,Ei,RH,ab6⟩:=h5 k x (by rw [List.getElem?_eq_getElem hE,pj]);have s7:=Lib.hid pj;have Qa:wr.cell? ⟨g,0,none⟩=some (.int .i64 id):=cell_later Φ aO;have hc:=atT x id g wr Qa;clear h5 pj;cases h4:(fV id) x with
   | true =>
    have jD:gh (fV id) l=(k:Int):=G6 hE (by rw [s7.out];exact h4) λ j ay=>gA.out j ay (by omega);rw [h4] at hc;have oQ:=Lib.hid jD;clear jD h4;go_wp2_with (go_at_call 201;refine hc.mono ?_;rintro e w' ⟨rfl,bo⟩)
    go_ret;exact ⟨by rw [oQ.out];rfl,Φ.trans (bo.mono Φ.size)⟩
   | false =>
    rw [h4] at hc;have ny:Hid (∀ j (ay:j<k+1) (pe:j<l.length),(fV id) l[j]=false):=by
     intro j ay pe;by_cases h:j<k
     ·exact gA.out j h pe
     ·obtain rfl:j=k:=by omega
      rw [s7.out];exact h4
    clear h4;go_wp2_with (go_at_call 201;refine hc.mono ?_;rintro e w' ⟨rfl,bo⟩)
    go_roundw
    case rel=>exact ⟨k+1,by omega,by go_num,ny,Φ.trans (bo.mono Φ.size)⟩
    case measure=>simp [intOf];omega
  ·have jD:gh (fV id) l= -1:=DT λ j ay=>gA.out j (by have:=e4.out;omega) ay;have oQ:=Lib.hid jD;clear jD;go_wp2_with fail
   go_ret;exact ⟨by rw [oQ.out];rfl,Φ⟩
def Sm (a:ae.b6) (k:Nat):Option Addr:=a.T.map λ x=>⟨x.block,k * 7,none⟩
def Eu (a:ae.b6) (W:ae) (id:Int):Option Addr:=match W.ag.findIdx? (fV id) with | none=>none | some k=>Sm a k
theorem L2 (id:Int) (w:World) (aB S:Nat) (a:ae.b6) (W:ae) (h:j' w aB S a W):
  Calls prog 168 #[.pointer (some ⟨S,0,none⟩), .int .i64 id] w λ e w'=>e= .returned (.pointer (Eu a W id))∧Below w.heap.size w w':=by
 obtain ⟨d',fa,fb,eE,ee,en,eR,fg,eX,eK⟩:=a;have cr:=jR w (.cells #[.int .i64 id] 3);have tG:=aK.new w [.int .i64 id] 3 (0,0);obtain ⟨w0,hT⟩:∃ w0,Hid (w.alloc (.cells #[.int .i64 id] 3)=w0):=⟨_,Lib.hid rfl⟩;rw [hT.out] at cr;have tG:aK w0 w.heap.size [.int .i64 id] 3 (0,0):=by rw [← hT.out];exact tG
 have aE:=h.later cr;obtain ⟨eo,gN⟩:∃ n,Hid (W.ag.length=n):=⟨_,Lib.hid rfl⟩;have Fg:=Lib.hid (aor id w.heap.size ee eK W.ag w0 aE.own.T.has (tG.cell 0));have azN:=h.eu.lt;obtain ⟨bL,c1,c2,c3,c4,c5,c',dT,dS⟩:=ae.qt aE.eu;have aV:=Lib.hid aE.eu;have bQ:aW.rep.aF 66 56 w0 aB (κ.af ee) ee eK W.ag:=aE.own.T;obtain ⟨FG,kR,eF,fK,wS,C1,Vu,axL,axM⟩:=ae.qt h.eu;rw [gN.out] at Fg c' Vu;unfold Eu;cases hf:W.ag.findIdx? (fV id) with
 | none =>
  have ao:gh (fV id) W.ag= -1:=by unfold gh;rw [hf]
  rw [ao] at Fg;clear hf ao h aE bQ tG;go_enter func168,ntmps168;go_wp2_with fail
  rw [hT.out];refine Fg.out.mono ?_;rintro e cl ⟨rfl,bo⟩;go_wp2_with fail
  go_ret;exact ⟨Z,cr.trans (bo.mono cr.size)⟩
 | some k =>
  have ao:gh (fV id) W.ag=(k:Int):=by unfold gh;rw [hf]
  rw [ao] at Fg;obtain ⟨t,aA,_⟩:=Dl hf;have av:k<eo:=by rw [← gN.out];exact (List.getElem?_eq_some_iff.1 aA).1
  obtain ⟨g,rfl⟩:=bQ.block (by rw [gN.out];omega);have nO:(k:Int)<(eo:Int):=by omega
  have xl:(0:Int)≤(k:Int):=by omega
  have az0:eo≤9223372036854775807:=by have:=bQ.has.ez;rw [gN.out] at this;exact this
  clear hf ao h aE bQ tG aA;go_enter func168,ntmps168;go_wp2_with fail
  rw [hT.out];refine Fg.out.mono ?_;rintro e cl ⟨rfl,bo⟩;have d6:=cell_later bo c';clear bL c1 c2 c3 c4 c5 c' dT dS;go_wp2_with fail
  go_ret;exact ⟨by simp [Sm],cr.trans (bo.mono cr.size)⟩
end
section
open Go.RowKit
def awO (W:ae) (V:Option ae) (w:World) (aB S:Nat) (e:Ending) (w':World):Prop :=
 ∃ a',e= .returned (.bool V.isSome)∧j' w' aB S a' (V.getD W)∧Below aB w w'
def axz (W:ae) (d:b1) (w:World) (aB S:Nat) (a:ae.b6) (e:Ending) (w':World):Prop :=
 ∃ V,e= .returned (.bool (W.lA d).isSome)∧(W.lA d).getD W=V∧j' w' aB S a V∧Below aB w w'
theorem Lv {W:ae} {d:b1} {k:Nat} {t:aW} (hf:W.ag.findIdx? (fV d.aL)=some k) (aA:W.ag[k]? =some t):
  W.lA d=if t.kind == 1 && decide (t.load<5) && beside t.spot d.spot && W.field.ek d.spot && W.bm.getD (W.place d.spot) 0 != 0 then
   some {W with bm:=W.bm.set (W.place d.spot) (W.bm.getD (W.place d.spot) 0 - 1),ag:=W.ag.set k (ae.oe t 1)} else none:=by
 have aO:W.ag.getD k default=t:=by rw [List.getD_eq_getElem?_getD,aA];rfl
 unfold ae.lA;rw [hf];simp only [aO]
end
section
open Go.RowKit
def s_ (W:ae) (V:Option ae) (w:World) (aB S:Nat) (a:ae.b6) (e:Ending) (w':World):Prop :=
 ∃ a',e= .returned (.bool V.isSome)∧j' w' aB S a' (V.getD W)∧(∀ q∈bf.b4 a',q∈bf.b4 a∨w.heap.size≤q)∧Mod (S::bf.b4 a) w w'
theorem bf.asZ {w aM:World} {aB:Nat} {a:ae.b6} {W:ae} {l:List Int} (h:bf w aB a W) (m:Mod (κ.af a.M) w aM) (tI:bz.aF 3 8 aM aB (κ.af a.M) a.M a.m l):bf aM aB a {W with bm:=l}:=by
 obtain ⟨d1,d2,d3⟩:=h.JS;exact ⟨h.P.mod m λ x hx hs=>(d1 x hs).1 hx,h.B.mod m λ x hx hs=>(d1 x hs).2.1 hx,h.S.mod m λ x hx hs=>(d1 x hs).2.2.1 hx,tI,h.T.mod m λ x hx hs=>(d1 x hs).2.2.2 hx,h.apart,h.nums⟩
theorem bf.acN {w aM:World} {aB:Nat} {a:ae.b6} {W:ae} {l:List aW} (h:bf w aB a W) (m:Mod (κ.af a.T) w aM) (bQ:aW.rep.aF 66 56 aM aB (κ.af a.T) a.T a.t l):bf aM aB a {W with ag:=l}:=by
 obtain ⟨d1,d2,d3⟩:=h.JS;exact ⟨h.P.mod m λ x hx hs=>(d2 x hs).1 hx,h.B.mod m λ x hx hs=>(d2 x hs).2.1 hx,h.S.mod m λ x hx hs=>(d2 x hs).2.2.1 hx,h.M.mod m λ x hx hs=>(d2 x hs).2.2.2 hx,bQ,h.apart,h.nums⟩
theorem adf {w:World} {aB:Nat} {a:ae.b6} {W:ae} {id:Int} {k:Nat} (h:bf w aB a W) (hf:W.ag.findIdx? (fV id)=some k):Eu a W id=some ⟨b' a.T,cX a.T+k * 7,none⟩:=by
 obtain ⟨t,aA,_⟩:=Dl hf;have bQ:aW.rep.aF 66 56 w aB (κ.af a.T) a.T a.t W.ag:=h.T;obtain ⟨g,aO⟩:=bQ.block (by have:=(List.getElem?_eq_some_iff.1 aA).1;omega);unfold Eu Sm;rw [hf,aO];simp [b',cX]
theorem ade {a:ae.b6} {W:ae} {id:Int} (hf:W.ag.findIdx? (fV id)=none):Eu a W id=none:=by unfold Eu;rw [hf]
theorem abq {W:ae} {d:b1} (hf:W.ag.findIdx? (fV d.aL)=none):W.lA d=none:=by unfold ae.lA;rw [hf]
theorem abp {W:ae} {d:b1} {k:Nat} {t:aW} (hf:W.ag.findIdx? (fV d.aL)=some k) (aA:W.ag[k]? =some t) (h:((t.kind != 1 || decide (5≤t.load)) || !beside t.spot d.spot)=true):W.lA d=none:=by
 rw [Lv hf aA,if_neg];intro hc;simp only [Bool.and_eq_true,decide_eq_true_eq,beq_iff_eq] at hc;simp only [hc.1.1.2,hc.1.1.1.1,Bool.or_eq_true,bne_self_eq_false,decide_eq_true_eq,Bool.not_true,Bool.false_eq_true,or_false,false_or] at h;omega
theorem abr {W:ae} {d:b1} {k:Nat} {t:aW} (hf:W.ag.findIdx? (fV d.aL)=some k) (aA:W.ag[k]? =some t) (hF:W.field.bh=0) (h:¬ W.field.dh d.spot=0):W.lA d=none:=by
 rw [Lv hf aA,if_neg];intro hc;simp only [Bool.and_eq_true] at hc;exact h (aC.kQ hF hc.1.2).1
theorem abt {W:ae} {d:b1} {k:Nat} {t:aW} {m:Int} (hf:W.ag.findIdx? (fV d.aL)=some k) (aA:W.ag[k]? =some t) (hm:W.bm.getD (W.place d.spot) 0=m) (h:m=0):W.lA d=none:=by
 rw [Lv hf aA,hm,h,if_neg (by simp)]
theorem ap3 {W:ae} {d:b1} {k:Nat} {t:aW} {m:Int} (hf:W.ag.findIdx? (fV d.aL)=some k) (aA:W.ag[k]? =some t) (av:t.kind=1) (az:t.load<5) (Φ:beside t.spot d.spot=true) (cM:W.field.ek d.spot=true) (hm:W.bm.getD (W.place d.spot) 0=m) (h:¬ m=0):
  W.lA d=some {W with bm:=W.bm.set (W.place d.spot) (m - 1),ag:=W.ag.set k (ae.oe t 1)}:=by
 rw [Lv hf aA,hm,if_pos];simp [av,az,Φ,cM,h]
theorem ap1 (d:b1) (w:World) (aB S:Nat) (a:ae.b6) (W:ae) (h:j' w aB S a W) (bq:Good W) (hf:W.ag.findIdx? (fV d.aL)=none):
  Calls prog 138 #[.pointer (some ⟨S,0,none⟩), .agg #[.int .i64 d.kind, .int .i64 d.aL, .int .i64 d.spot.x, .int .i64 d.spot.y, .int .i64 d.what]] w (s_ W (W.lA d) w aB S a):=by
 have p':=bq.sl;have Bw:=bq.uu;have hG:=h.low;have tJ:aB≤w.heap.size:=by have:=h.low;have:=h.eu.lt;omega
 have gL:=h.aT;have kZ:=h.eu.lt;have ba:=h.eu;have aN:=h.own;have tv:∀ q∈bf.b4 a,q=S→False:=λ q I Φ=>gL (Φ ▸ I);have uG:=λ q I=>(aN.lt q I).2;have nR:=ade (a:=a) hf;refine cv (n:=88) func138 Z Z Z ?_;refine aj<|cI Z Z Z Z λ qs AX j3 Lh c6=> ?_;have:=j3.size;have c0:=(Mod.bM (S::bf.b4 a) w).trans (Mod.bG j3);have LS:=c6.lt;refine va Z<|ah<|aj<|vm Z<|J (aw vr Z)<|J (ak Z (c6.one aZ Z))<| ?_;have ba:=ba.later j3;have aN:=aN.later j3;refine ca JU Z Z (((nR ▸ L2 d.aL _ aB S a W ⟨ba,aN,gL,hG⟩)).mono ?_);rintro e uK ⟨rfl,bj⟩;refine ⟨_,Z, ?_⟩;have:=bj.size;have iy:=c0.trans (Mod.bG bj);refine va Z<|ah<|aD<|aD<| ?_;refine rd [(6,0),(13,0),(20,0),(22,0),(23,0)] [0,1,2,3,4,5,6,7,8,9,10,11,12,13,14,15,16,17,18,19,20,21,22,23,24,25] (by kernel_rfl) (by kernel_rfl) ?_;refine aq rfl (λ _=>aJ rfl)<|aq rfl (λ _=>Jy underlying227 rfl rfl)<|aq rfl (λ _=>aJ rfl)<|aQ (v:=undef) rfl rfl rfl rfl rfl rfl (λ hc=>nomatch hc) rfl<|aQ (v:=undef) rfl rfl rfl rfl rfl rfl (λ hc=>nomatch hc) rfl<|aQ (v:=undef) rfl rfl rfl rfl rfl rfl (λ hc=>nomatch hc) rfl<|cc (v:=undef) rfl rfl rfl rfl rfl rfl (λ hc=>nomatch hc) rfl<|aQ (v:=undef) rfl rfl rfl rfl rfl rfl (λ hc=>nomatch hc) rfl<|aq rfl (λ _=>n2 rfl rfl)<|aq rfl (λ _=>aJ rfl)<|aQ (v:=undef) rfl rfl rfl rfl rfl rfl (λ hc=>nomatch hc) rfl<|aQ (v:=undef) rfl rfl rfl rfl rfl rfl (λ hc=>nomatch hc) rfl<|aQ (v:=undef) rfl rfl rfl rfl rfl rfl (λ hc=>nomatch hc) rfl<|cc (v:=undef) rfl rfl rfl rfl rfl rfl (λ hc=>nomatch hc) rfl<|aQ (v:=undef) rfl rfl rfl rfl rfl rfl (λ hc=>nomatch hc) rfl<|aq rfl (λ _=>n2 rfl rfl)<|aq rfl (λ _=>aJ rfl)<|aQ (v:=undef) rfl rfl rfl rfl rfl rfl (λ hc=>nomatch hc) rfl<|aQ (v:=undef) rfl rfl rfl rfl rfl rfl (λ hc=>nomatch hc) rfl<|aQ (v:=undef) rfl rfl rfl rfl rfl rfl (λ hc=>nomatch hc) rfl<|cc (v:=undef) rfl rfl rfl rfl rfl rfl (λ hc=>nomatch hc) rfl<|aQ (v:=undef) rfl rfl rfl rfl rfl rfl (λ hc=>nomatch hc) rfl<|cc (v:=undef) rfl rfl rfl rfl rfl rfl (λ hc=>nomatch hc) rfl<|h3 (v:=undef) (args:= []) rfl rfl rfl rfl rfl rfl JV (λ hc=>nomatch hc) (λ hc=>nomatch hc) rfl<| ?_;refine aQ (v:=undef) rfl rfl rfl rfl rfl rfl (λ hc=>nomatch hc) rfl<|aq rfl (λ _=>n2 rfl rfl)<|fn λ B' eC=> ?_;have:=eC.size;have n9:=iy.trans (Mod.bG eC);refine a6<|fL Z<|aj<|va Z<|ah<|rt<|cf<|bp (.tmp Z .nil)<| ?_;have aN:=aN.later (τ bj eC);have ba:=ba.later (τ bj eC);exact ⟨a,by rw [abq hf];rfl,by rw [abq hf];exact ⟨ba,aN,gL,hG⟩,λ q I=> .inl I,n9⟩
theorem ap0 (d:b1) (w:World) (aB S:Nat) (a:ae.b6) (W:ae) (h:j' w aB S a W) (bq:Good W) (k:Nat) (t:aW) (hf:W.ag.findIdx? (fV d.aL)=some k) (aA:W.ag[k]? =some t):
  Calls prog 138 #[.pointer (some ⟨S,0,none⟩), .agg #[.int .i64 d.kind, .int .i64 d.aL, .int .i64 d.spot.x, .int .i64 d.spot.y, .int .i64 d.what]] w (s_ W (W.lA d) w aB S a):=by
 have p':=bq.sl;have Bw:=bq.uu;have hG:=h.low;have tJ:aB≤w.heap.size:=by have:=h.low;have:=h.eu.lt;omega
 have gL:=h.aT;have kZ:=h.eu.lt;have ba:=h.eu;have aN:=h.own;have tv:∀ q∈bf.b4 a,q=S→False:=λ q I Φ=>gL (Φ ▸ I);have uG:=λ q I=>(aN.lt q I).2;have nR:=adf aN hf;have bQ:=bq.ag k t aA;obtain ⟨i1,i2,i3,i4,i5,i6⟩:=aC.idx bq.field (aC.iD bQ.ground);obtain ⟨pL,Ah,EY,MH,_,_⟩:=aC.jg bq.field;have cF:0≤t.spot.x:=by omega
 have bo:t.spot.x≤40:=by omega
 have dj:0≤t.spot.y:=by omega
 have de:t.spot.y≤40:=by omega
 have amZ:=bQ.load;refine cv (n:=88) func138 Z Z Z ?_;refine aj<|cI Z Z Z Z λ qs AX j3 Lh c6=> ?_;have:=j3.size;have c0:=(Mod.bM (S::bf.b4 a) w).trans (Mod.bG j3);have LS:=c6.lt;refine va Z<|ah<|aj<|vm Z<|J (aw vr Z)<|J (ak Z (c6.one aZ Z))<| ?_;have ba:=ba.later j3;have aN:=aN.later j3;refine ca JU Z Z (((nR ▸ L2 d.aL _ aB S a W ⟨ba,aN,gL,hG⟩)).mono ?_);rintro e uK ⟨rfl,bj⟩;refine ⟨_,Z, ?_⟩;have:=bj.size;have iy:=c0.trans (Mod.bG bj);refine va Z<|ah<|aD<|aD<| ?_;refine rd [(6,0),(13,0),(20,0),(22,0),(23,0)] [0,1,2,3,4,5,6,7,8,9,10,11,12,13,14,15,16,17,18,19,20,21,22,23,24,25] (by kernel_rfl) (by kernel_rfl) ?_;refine aq Z (λ _=>aJ Z)<|aq Z (λ _=>Jy underlying227 Z Z)<|aq Z (λ _=>aJ Z)<|aQ Z Z Z Z Z Z (λ hc _=>aJ Z) Z<|aQ Z Z Z Z Z Z (λ hc _=>cn Z) Z<|aQ Z Z Z Z Z Z (λ hc _=>aw J6 Z) Z<| ?_;have aN:=aN.later bj;refine cc Z Z Z Z Z Z (λ hc _ x=>ak Z (κ.aH.nH ih (by rw [← (aN.later x).T.has.bA (a8 k (by have:=(List.getElem?_eq_some_iff.1 aA).1;exact this))];exact (aN.later x).T.has) 2 aA Z aZ)) Z<|aQ Z Z Z Z Z Z (λ hc _=>bne Z Z) Z<|aq Z (λ _=>qj Z Z)<|aq Z (λ _=>aJ Z)<|aQ Z Z Z Z Z Z (λ hc _=>aJ Z) Z<|aQ Z Z Z Z Z Z (λ hc _=>cn (gt hc Z)) Z<|aQ Z Z Z Z Z Z (λ hc _=>aw yK (gt hc Z)) Z<|cc Z Z Z Z Z Z (λ hc _ x=>ak (gt hc Z) (κ.aH.nH ih (by rw [← (aN.later x).T.has.bA (a8 k (by have:=(List.getElem?_eq_some_iff.1 aA).1;exact this))];exact (aN.later x).T.has) 6 aA Z aZ)) Z<|aQ Z Z Z Z Z Z (λ hc _=>l1 (gt hc Z) Z) Z<|aq Z (λ _=>gy Z Z Z Z)<|aq Z (λ _=>aJ Z)<|aQ Z Z Z Z Z Z (λ hc _=>aJ Z) Z<|aQ Z Z Z Z Z Z (λ hc _=>cn (gt hc Z)) Z<|aQ Z Z Z Z Z Z (λ hc _=>aw q2 (gt hc Z)) Z<|cc Z Z Z Z Z Z (λ hc _ x=>ak (gt hc Z) (κ.aH.part ih (by rw [← (aN.later x).T.has.bA (a8 k (by have:=(List.getElem?_eq_some_iff.1 aA).1;exact this))];exact (aN.later x).T.has) 3 (ds:= [.int .i64 t.spot.x, .int .i64 t.spot.y]) aA Z bZ bE)) Z<|aQ Z Z Z Z Z Z (λ hc _=>aw JW Z) Z<| ?_;have c6:=c6.later bj;refine cc Z Z Z Z Z Z (λ hc _ x=>ak (gt hc Z) ((c6.later x).par [.int .i64 d.spot.x, .int .i64 d.spot.y] bZ bE Z)) Z<|h3 Z Z Z Z Z Z JV (λ hc=>fB (gt hc Z) (fB (gt hc Z) Z)) (λ hc _ x=>VE t.spot d.spot _ cF bo dj de) Z<|aQ Z Z Z Z Z Z (λ hc _=>eo (gt hc Z)) Z<|aq Z (λ _=>gy Z Z Z Z)<|fn λ B' eC=> ?_;have:=eC.size;have n9:=iy.trans (Mod.bG eC);refine a6<| ?_;refine fk Z (λ kD=> ?_) (λ kD=> ?_)
 ·refine aj<|va Z<|ah<|rt<|cf<|bp (.tmp Z .nil)<| ?_;have aN:=aN.later eC;have ba:=ba.later (τ bj eC);exact ⟨a,by rw [abp hf aA kD];rfl,by rw [abp hf aA kD];exact ⟨ba,aN,gL,hG⟩,λ q I=> .inl I,n9⟩
 ·simp only [Bool.or_eq_false_iff,bne_eq_false_iff_eq,decide_eq_false_iff_not,Bool.not_eq_false',Int.not_le] at kD;obtain ⟨⟨av,az⟩,Gn⟩:=kD;refine bx<|aD<|aD<| ?_;refine rd [(4,0),(6,0),(7,0)] [0,1,2,3,4,5,6,7,8,9,10,11,12] (by kernel_rfl) (by kernel_rfl) ?_;refine aq Z (λ _=>aJ Z)<|aq Z (λ _=>cn Z)<|aq Z (λ _=>aw lh Z)<|aq Z (λ _=>aw o5 Z)<| ?_;have ba:=ba.later (τ bj eC);refine bD Z (λ _ x=>ak Z ((ba.later x).par [.int .i64 W.field.wide, .int .i64 W.field.high, .slice a.P W.field.aP.length a.p] kb kc Z))<|aq Z (λ _=>aw JW Z)<| ?_;have c6:=c6.later eC;refine bD Z (λ _ x=>ak Z ((c6.later x).par [.int .i64 d.spot.x, .int .i64 d.spot.y] bZ bE Z))<| ?_;have aN:=aN.later eC;refine o8 Z Z o4 Z (λ _ x=>p3 W.field d.spot a.P a.p _ ((aN.later x).P).has) Z<|aq Z (λ _=>aJ Z)<|aq Z (λ _=>ex Z Z)<|aq Z (λ _=>ex Z Z)<|aq Z (λ _=>eV Z)<|aq Z (λ _=>eV Z)<|fn λ xT b0=> ?_;have:=b0.size;have j6:=n9.trans (Mod.bG b0);refine a6<|aj<|vm Z<|J (bne Z Z)<|ah<| ?_;refine hg Z (λ q5=> ?_) (λ q5=> ?_)
  ·refine aj<|va Z<|ah<|rt<|cf<|bp (.tmp Z .nil)<| ?_;have aN:=aN.later b0;have ba:=ba.later b0;exact ⟨a,by rw [abr hf aA bq.field q5];rfl,by rw [abr hf aA bq.field q5];exact ⟨ba,aN,gL,hG⟩,λ q I=> .inl I,j6⟩
  ·have cM:=NP bq.field q5;obtain ⟨eh,gT,iv,n6,nj,pH⟩:=aC.idx bq.field cM;have q9:=aC.ez bq.field;obtain ⟨pL,Ah,EY,MH,_,_⟩:=aC.jg bq.field;have jv:0≤d.spot.y * W.field.wide:=Int.mul_nonneg nj (by omega);have z2:d.spot.y * W.field.wide≤1600:=by omega
   have anw:W.place d.spot<W.bm.length:=by unfold ae.place;omega
   obtain ⟨m,hm⟩:=gg anw;have aAd:=bq.bm _ m hm;have Qm:W.bm.getD (W.place d.spot) 0=m:=by rw [List.getD_eq_getElem?_getD,hm];rfl
   refine bx<|aD<| ?_;refine rd [(4,0),(7,0),(13,0),(17,0)] [0,1,2,3,4,5,6,7,8,9,10,11,12,13,14,15,16,17,18,19,20] (by kernel_rfl) (by kernel_rfl) ?_;refine aq Z (λ _=>aJ Z)<|aq Z (λ _=>cn Z)<|aq Z (λ _=>aw lh Z)<|aq Z (λ _=>aw A9 Z)<| ?_;have ba:=ba.later b0;refine bD Z (λ _ x=>ak Z ((ba.later x).one fl Z))<|aq Z (λ _=>aw JW Z)<|aq Z (λ _=>aw hh Z)<| ?_;have c6:=c6.later b0;refine bD Z (λ _ x=>ak Z ((c6.later x).one aZ Z))<|aq Z (λ _=>aJ Z)<|aq Z (λ _=>cn Z)<|aq Z (λ _=>aw lh Z)<|aq Z (λ _=>aw o5 Z)<|aq Z (λ _=>aw OA Z)<|bD Z (λ _ x=>ak Z ((ba.later x).one aZ Z))<|aq Z (λ _=>yB Z Z (bF (by omega)))<|aq Z (λ _=>aw JW Z)<|aq Z (λ _=>aw gJ Z)<|bD Z (λ _ x=>ak Z ((c6.later x).one aZ Z))<|aq Z (λ _=>bad Z Z (bF (by omega)))<| ?_;have aN:=aN.later b0;refine aq Z (λ _=>bY (((d.spot.y * W.field.wide)+d.spot.x).toNat) underlying22 cz Z Z (aN.M.has.bA (a8 (((d.spot.y * W.field.wide)+d.spot.x).toNat) (show (d.spot.y * W.field.wide+d.spot.x).toNat<W.bm.length by omega))) (by omega) (show (d.spot.y * W.field.wide+d.spot.x).toNat<W.bm.length by omega))<|aq Z (λ _=>eV Z)<|fn λ xU js=> ?_;have:=js.size;have np:=j6.trans (Mod.bG js);refine a6<|aD<|aj<|vm Z<|J (cn Z)<| ?_;have aN:=aN.later js;refine J (ak Z (κ.aH.e9 fo (by rw [← aN.M.has.bA (a8 (((d.spot.y * W.field.wide)+d.spot.x).toNat) (show (d.spot.y * W.field.wide+d.spot.x).toNat<W.bm.length by omega))];exact aN.M.has) hm Z aZ))<|J (beq Z Z)<|ah<| ?_;refine l3 Z (λ tK=> ?_) (λ tK=> ?_)
   ·refine aj<|va Z<|ah<|rt<|cf<|bp (.tmp Z .nil)<| ?_;have ba:=ba.later js;exact ⟨a,by rw [abt hf aA Qm tK];rfl,by rw [abt hf aA Qm tK];exact ⟨ba,aN,gL,hG⟩,λ q I=> .inl I,np⟩
   ·refine bx<|aj<|vm Z<|J (cn Z)<|J (ak Z (κ.aH.e9 fo (by rw [← aN.M.has.bA (a8 (((d.spot.y * W.field.wide)+d.spot.x).toNat) (show (d.spot.y * W.field.wide+d.spot.x).toNat<W.bm.length by omega))];exact aN.M.has) hm Z aZ))<|J (kB Z Z (bF (by omega)))<|J (cn Z)<|so (q':=m - 1) (j:=0) (i:=((d.spot.y * W.field.wide)+d.spot.x).toNat) aN.M κ.dV hm Z Z Z Z (λ _ cs h=>by have zE:=(show _∧_ from h).2;obtain rfl:=fo h;exact ⟨rfl,bt.2 (by omega)⟩) Z Z cz λ zW rj afL=> ?_;have ba:=ba.later js;have c6:=c6.later js;have:=rj.size;have nr:=np.md rj (λ q I=> .inl (List.mem_cons_of_mem _ (A' I)));have Fl:=aN.asZ rj afL;have Mh:=λ q I=>(Fl.lt q I).2;have JP:∀ q∈κ.af a.M,q=S→False:=λ q I Φ=>by (exact tv q (A' I) Φ)
    have ba:=ba.mod rj (λ I=>JP _ I rfl);refine ah<|aj<|vm Z<|J (cn Z)<|J (aw yK Z)<|J (ak Z (κ.aH.nH ih (by rw [← Fl.T.has.bA (a8 k (by have:=(List.getElem?_eq_some_iff.1 aA).1;exact this))];exact Fl.T.has) 6 aA Z aZ))<|J (bad Z Z (bF (by omega)))<|J (cn Z)<|J (aw yK Z)<|so (q':=ae.oe t 1) (j:=6) (i:=k) Fl.T κ.dV aA Z Z Z Z (λ _ cs h=>by have zE:=(show _∧_ from h).2;obtain rfl:=ih h;exact ⟨rfl,by obtain ⟨nc,kk,lC,ml,nZ,Eb,HE⟩:=zE;exact ⟨nc,kk,lC,ml,nZ,Eb,bt.2 (by show _≤t.load+1∧t.load+1≤_;omega)⟩⟩) Z Z cz λ zX h7 I8=> ?_;have aia:∀ q∈κ.af a.M,q=AX→False:=λ q I Φ=>by (have:=uG q (A' I);omega)
    have c6:=c6.mod rj (λ I=>aia _ I rfl);have:=h7.size;have nu:=nr.md h7 (λ q I=> .inl (List.mem_cons_of_mem _ (og I)));have Us:=Fl.acN h7 I8;have n4:=λ q I=>(Us.lt q I).2;have aib:∀ q∈κ.af a.T,q=S→False:=λ q I Φ=>by (exact tv q (og I) Φ)
    have ba:=ba.mod h7 (λ I=>aib _ I rfl);refine ah<|aj<|va Z<|ah<|rt<|bp (.tmp Z .nil)<| ?_;rw [ap3 hf aA av az Gn cM Qm (by assumption)];exact ⟨a,Z,⟨by simpa [ae.cells] using ba,Us,gL,hG⟩,λ q I=> .inl I,nu⟩
end
section
open Go.RowKit
def awP (W:ae) (d:b1) (w:World) (aB S:Nat) (a:ae.b6) (e:Ending) (w':World):Prop :=
 ∃ V,e= .returned (.bool (W.drop d).isSome)∧(W.drop d).getD W=V∧j' w' aB S a V∧Below aB w w'
theorem drop_eq {W:ae} {d:b1} {k:Nat} {t:aW} {b:ar} {s:Int} (hf:W.ag.findIdx? (fV d.aL)=some k) (aA:W.ag[k]? =some t) (Φ:W.aY[t.owner.toNat]? =some b) (hs:W.a_[t.owner.toNat]? =some s):
  W.drop d=if t.load != 0 && beside b t.spot && decide (0<min t.load (1000000 - s)) then
   some {W with a_:=W.a_.set t.owner.toNat (s+min t.load (1000000 - s)),ag:=W.ag.set k (ae.oe t (-(min t.load (1000000 - s))))} else none:=by
 have aO:W.ag.getD k default=t:=by rw [List.getD_eq_getElem?_getD,aA];rfl
 have Qb:W.aY.getD t.owner.toNat default=b:=by rw [List.getD_eq_getElem?_getD,Φ];rfl
 have amA:W.a_.getD t.owner.toNat 0=s:=by rw [List.getD_eq_getElem?_getD,hs];rfl
 unfold ae.drop;rw [hf];simp only [aO,Qb,amA]
theorem acO {α:Type} {l:List α} {i:Nat} {x:α} (h:l[i]? =some x):l.set i x=l:=by
 apply List.ext_getElem?;intro j;by_cases e:i=j
 ·subst e;rw [List.getElem?_set_self (List.getElem?_eq_some_iff.1 h).1,h]
 ·rw [List.getElem?_set_ne e]
end
end Go.Proofs.YtlikikpgmmkjbaaGreat
