import Derived.Test.YtooonebcoaleiaaGreatSvO
set_option linter.all false
set_option maxRecDepth 100000
set_option maxHeartbeats 4000000
open Go.RowKit
namespace Go.Proofs.YtooonebcoaleiaaGreat
open Tryz
abbrev beE:=@List.mem_flatMap
abbrev bfp:=@List.length_finRange
section
def ayc:dU prog bN 22 3 8:=dU.O (z:=J 0) (k:=1) underlying22 y5 rfl rfl GP (λ j u h=>CZ j u h)
def ZU:dU prog kY 98 129 8:=dU.O (z:=.int .u64 0) (k:=1) underlying98 V9 rfl rfl GP (λ j u h=>Xn j u h)
open fg
theorem M3(l:List Int)(A:Option Addr)(c:Nat)(w:World)(d:bN.aF 8 w A c l):
  Calls prog 96 #[.slice A l.length c] w (λ e w'=>e=.returned (.int .u64 (U (ll l)))/\Ext w w'):=by
 refine bT (n:=12) func96 Z Z Z ?_;refine ar<|aG Z<|aC Z<|ca akE Z Z ((aMk l _ _ _ (d.be (Ext.U w))).mono ?_);rintro e i ⟨⟨h,rfl⟩,b⟩;refine cR ?_;have:=b.size;refine vm Z<|bL Z Z<|bL Z Z<|va Z<|aG Z<|aC Z<|cf aCp Z (aJ8 (CW l) (arh _) _) λ g a=>?_;have:=a.size;have f:=Φ b a;refine bc Z<|b3 Z Z<|?_;exact⟨Z,f⟩
theorem aKP(a:ag.cS)(W:ag)(w:World)(f:ag.fd w a W)(c:W.br≠0):
  Calls prog 66 #[.agg ((ag.cells a W).toArray)] w (λ e w'=>e=.returned (.tuple #[.int .u64 (U (uV W)),J W.br])/\Ext w w'):=by
 have d:(W.br != 0)=true:=by simpa using c
 refine bT (n:=107) func66 Z Z Z ?_;refine cZ Z Z λ l j b k i=>?_;refine va Z<|aG Z<|av<|ar<|κ (aq Z (i.all cD bP))<|cf L7 Z (Gz a W _ (f.be b)) λ m h=>?_;have g:=Φ b h;refine aG Z<|aC Z<|cV Z Z<|ax<|fB (iJ Z d)<|aC Z<|va Z<|bc Z<|bR<|hE Z Z Z<|?_;exact⟨by unfold uV;rw[ban c];rfl,g⟩
theorem aKQ(a:ag.cS)(W:ag)(w:World)(g:ag.fd w a W)(hc:W.br=0):
  Calls prog 66 #[.agg ((ag.cells a W).toArray)] w (λ e w'=>e=.returned (.tuple #[.int .u64 (U (uV W)),J W.br])/\Ext w w'):=by
 have aF:(W.br != 0)=false:=by simpa using hc
 have F:=Good.G hc;have bh:=F.l5;have bi:=F.dj;have bj:=F.sl;have bg:=F.zc;have be:=aE.M F.am;obtain⟨HE,tG,qi,tH⟩:=g.nums;refine bT (n:=107) func66 Z Z Z ?_;refine cZ Z Z λ ch s aV cY b=>?_;have gp:=b.lt;refine va Z<|aG Z<|av<|ar<|κ (aq Z (b.all cD bP))<|cf L7 Z (Gz a W _ (g.be aV)) λ dr c0=>?_;have:=c0.size;have bo:=Φ aV c0;refine aG Z<|aC Z<|cV Z Z<|ax<|ef (iJ Z aF)<|bf<|ar<|κ (aj lA Z)<|κ (aj s8 Z)<|?_;have b:=b.O c0;refine a1 Z b aH Z<|κ (aj lA Z)<|κ (aj I5 Z)<|a1 Z b aH Z<|κ (aj vQ Z)<|a1 Z b aH Z<|κ (aj yJ Z)<|a1 Z b aH Z<|cT (e:=3) (cs:=[J 1,J W.am.O,J W.am.high,J W.next,J W.db]) Z (λ _=>GT) Z λ sM ke eW M0 iU=>?_;have jk:=Φ bo eW;have a5:=iU.lt;refine κ (aj lA Z)<|κ (aj qK Z)<|?_;have b:=b.O eW;refine a1 Z b et Z<|?_;have Ts:=aO.K (R:=bN) (by_:=8) (B:=w.heap.size) (k:=[1,W.am.O,W.am.high,W.next,W.db]) iU [[J 1],[J W.am.O],[J W.am.high],[J W.next],[J W.db]] rfl (⟨⟨rfl,b7.2 GP⟩,⟨⟨rfl,HE⟩,⟨⟨rfl,tG⟩,⟨⟨rfl,qi⟩,⟨⟨rfl,tH⟩,trivial⟩⟩⟩⟩⟩) Kx Kx GP GE;have Wq:∀ q∈τ.ai (bd ke),ke<=q:=λ q I=>bbz (bah.1 I).symm;refine ap ayc τ.O Ts (g.P.be jk) Z Z (by simp only[baj,baq];omega) (by simp only[baj,baq];omega) jk.size Z λ vh La bw iZ DY Me a0=>?_;have:=iZ.size;have jb:=Ext.H jk iZ (λ q I=>(Ts.lt q I).1);refine cf Uu Z (M3 ([1,W.am.O,W.am.high,W.next,W.db]++W.am.G) _ _ _ DY.bv) λ pM dv=>?_;have:=dv.size;have iE:=Φ jb dv;refine cT (e:=129) (cs:=[.int .u64 (U (ll ([1,W.am.O,W.am.high,W.next,W.db]++W.am.G)))]) Z (λ _=>GT) Z λ Bo aa mP bk aP=>?_;have mR:=Φ iE mP;refine aG Z<|av<|ar<|κ (aj lY Z)<|?_;have ai:∀ q∈τ.ai (bd ke),q=s->False:=λ q I ae=>by (have:=Wq q I;omega)
 have b:=(b.H iZ (λ I=>ai _ I rfl)).O (Φ dv mP);refine a1 Z b lZ Z<|κ (bY underlying25 Z)<|vm Z<|ax<|bp<|?_;have OM:=aO.K (R:=kY) (by_:=8) (B:=w.heap.size) (k:=[WQ W]) aP [[.int .u64 (U (WQ W))]] rfl (⟨⟨rfl,trivial⟩,trivial⟩) Kx Kx GP GE;have qL:∀ q∈τ.ai (bd aa),q=aa:=λ q I=>bah.1 I;refine di (λ H G l=>∃ d:Nat,∃ p:List (BitVec 64),∃ z:Option Addr,∃ Y:Nat,G=[(1,.pointer (bd s)),(2,.int .u64 0),(3,J 0),(5,.slice z p.length Y),(35,.slice a.B W.aT.length a.b),(36,J (W.aT.length:Int)),(37,J (d:Int))]/\H=W.aT.length-d/\Ext w l/\aO l s (ag.cells a W) 28 (0,0)/\kY.aM 129 8 l w.heap.size (τ.ai z) z Y p/\(d<=W.aT.length)/\(p=E1 W d)/\(∀ q∈τ.ai z,q=s->False)) _ _ ⟨0,[WQ W],some ⟨aa,0,none⟩,1,Z,Z,mR,b,OM,GE,rfl,(λ q I ae=>by (have:=qL q I;omega))⟩ (c' Z Z Z) ?_;rintro nW bM rJ ⟨d,p,z,Y,rfl,rfl,gU,b,A,sj,Vd,Cl⟩;have a6:=b.lt;have RX:=b4 A.lt;refine ar<|cF Z Z<|ax<|av<|?_;refine c7 Z (λ Ay=>?_) (λ Ay=>?_)
 .obtain⟨c,nR⟩:∃ c,W.aT.getD d default=c:=⟨_,rfl⟩;obtain⟨j,ad⟩:∃ j,W.bl.getD d 0=j:=⟨_,rfl⟩;have ah:c.ok:=aw.C g.B c (by rw[<-nR];exact gZ GE);have W1:gg j:=Kn g.S j (by rw[<-ad];exact gZ GE);have ak:WO W d=ll [2,(d:Int),c.x,c.y,j]:=by unfold WO;rw[nR,ad]
  have af:p.length=d+1:=by rw[Vd,aeH]
  refine bf<|av<|bp<|aC Z<|κ (bD d underlying25 bq Z Z ((g.B.be gU).Y (aL d)) Z GE)<|κ (aq Z (τ.aF.G ng ((g.B.be gU).O (aL d)) (show W.aT[d]? =some c by rw[<-nR];exact cg (u:=default) GE) bS bq))<|cy pk Z λ xZ vL jz Q_ O=>?_;have jX:=Φ gU jz;have Kj:=O.lt;refine va Z<|ck Z Z O Z bq Z Z λ qq mh O=>?_;have:=mh.size;have hQ:=Ext.H jX mh bn;refine ax<|?_;refine c_ [(3,0),(5,0),(7,0),(10,0),(11,2),(12,0),(13,2),(14,3)] [0,1,2,3,4,5,6,7,8,9,10,11,12,13,14,15] ?_;refine bt Z Z<|bt Z Z<|aA Z (λ _=>aj fj Z)<|cr Z Z O aH Z<|aA Z (λ _=>aj fk Z)<|cr Z Z O aH Z<|aA Z (λ _=>aj oJ Z)<|?_;have b:=(b.O jz).H mh aJ;refine cr Z Z b et Z<|bt Z Z<|aA Z (λ _=>bD d underlying22 cO Z Z ((g.S.be hQ).Y (aL d)) Z GE)<|dE Z (λ _ x=>aq Z (τ.aF.H ew ((g.S.be (Φ hQ x)).O (aL d)) (show W.bl[d]? =some j by rw[<-ad];exact cg (u:=0) GE) Z aH))<|fO Z Z Z λ NQ M Q K=>cT (e:=3) (cs:=[J 2,J (d:Int),J c.x,J c.y,J j]) Z (λ _=>GT) Z λ C9 Ca jA We ie=>K _ _ ⟨Φ M jA,?_⟩;have:=M.size;have tS:=Φ hQ M;have mU:=Φ tS jA;have bl:=ie.lt;refine nQ Z Z Uu Z (λ _ x=>M3 ([2,(d:Int),c.x,c.y,j]) _ _ _ ((aO.M (R:=bN) (by_:=8) (k:=[2,(d:Int),c.x,c.y,j]) ie [[J 2],[J (d:Int)],[J c.x],[J c.y],[J j]] Z (⟨⟨Z,b7.2 GP⟩,⟨⟨Z,b7.2 GE⟩,⟨⟨Z,ah.1⟩,⟨⟨Z,ah.2⟩,⟨⟨Z,W1⟩,trivial⟩⟩⟩⟩⟩) Kx Kx).be x)) Z<|fO Z Z Z λ R8 L Q K=>cT (e:=129) (cs:=[.int .u64 (U (ll ([2,(d:Int),c.x,c.y,j])))]) Z (λ _=>GT) Z λ NT bU gh aW Oi=>K _ _ ⟨Φ L gh,?_⟩;have:=L.size;have yk:=Φ mU L;have qy:=Φ yk gh;have a8:=Oi.lt;have A:=((A.O jz).H mh (bV RX)).O (Φ M (Φ jA (Φ L gh)));refine en Z Z Z λ NV v Q K=>ap ZU τ.O (A.O v) ((aO.G (R:=kY) (by_:=8) (q:=(ll ([2,(d:Int),c.x,c.y,j]))) Oi ⟨Z,trivial⟩ GP).be v) Z Z (by simp only[baj,baq];omega) (by simp only[baj,baq];omega) (by have:=v.size;omega) Z λ KK YR an oQ IG aD a2=>K _ _ ?_;have:=v.size;have pU:=Φ qy v;have qA:=Ext.H pU oQ (λ q I=>bay GE ((A.O v).lt q I).1);refine aA Z (λ _=>fh Z)<|fn λ N0 lL=>?_;have wX:=Φ qA lL;refine bK<|cW Z Z Z<|?_;have b:=((b.O (Φ M (Φ jA (Φ L (Φ gh v))))).H oQ (λ I=>Cl _ I rfl)).O lL;have IG:=IG.O lL;exact cM ⟨d+1,p++ [(ll ([2,(d:Int),c.x,c.y,j]))],YR,an,Z,Z,wX,b,IG,GE,by rw[aKR,Vd,ak],(eh aD Cl)⟩
 .refine cI<|cH<|cU<|cG<|a7<|av<|ar<|κ (aj rZ Z)<|a1 Z b et Z<|κ (bY underlying22 Z)<|vm Z<|ax<|bp<|?_;refine di (λ H G l=>∃ f:Nat,∃ o:List (BitVec 64),∃ y:Option Addr,∃ E:Nat,G=[(1,.pointer (bd s)),(2,.int .u64 0),(3,J 0),(5,.slice y o.length E),(59,.slice a.M W.bE.length a.m),(60,J (W.bE.length:Int)),(61,J (f:Int))]/\H=W.bE.length-f/\Ext w l/\aO l s (ag.cells a W) 28 (0,0)/\kY.aM 129 8 l w.heap.size (τ.ai y) y E o/\(f<=W.bE.length)/\(o=E1 W W.aT.length++E3 W f)/\(∀ q∈τ.ai y,q=s->False)) _ _ ⟨0,p,z,Y,Z,Z,gU,b,A,GE,by rw[E3,baP,Vd,show d=W.aT.length by omega],Cl⟩ (c' Z Z Z) ?_;rintro uP bJ KL ⟨f,o,y,E,rfl,rfl,N,b,D,fJ,V,Co⟩;have a3:=b.lt;refine ar<|cF Z Z<|ax<|av<|?_;refine c7 Z (λ az=>?_) (λ az=>?_)
  .obtain⟨h,VL⟩:∃ h,W.bE.getD f 0=h:=⟨_,rfl⟩;have W1:gg h:=Kn g.M h (by rw[<-VL];exact gZ GE);have af:o.length<=W.aT.length+1+f:=by rw[V,bam,aeH];have:=aeM W f;omega
   refine bf<|av<|bp<|aC Z<|κ (bD f underlying22 cO Z Z ((g.M.be N).Y (aL f)) Z GE)<|κ (aq Z (τ.aF.H ew ((g.M.be N).O (aL f)) (show W.bE[f]? =some h by rw[<-VL];exact cg (u:=0) GE) Z aH))<|va Z<|aG Z<|aC Z<|cV Z Z<|ax<|?_;refine fr Z (λ Eu=>?_) (λ Eu=>?_)
   .have AH:h≠0:=by simpa using Eu
    refine rg<|vm Z<|vm Z<|vm Z<|cT (e:=3) (cs:=[J 3,J (f:Int),J h]) Z (λ _=>GT) Z λ R5 bz l7 bA FN=>?_;have zD:=Φ N l7;have bC:=FN.lt;refine cf Uu Z (M3 ([3,(f:Int),h]) _ _ _ (aO.M (R:=bN) (by_:=8) (k:=[3,(f:Int),h]) FN [[J 3],[J (f:Int)],[J h]] Z (⟨⟨Z,b7.2 GP⟩,⟨⟨Z,b7.2 GE⟩,⟨⟨Z,W1⟩,trivial⟩⟩⟩) Kx Kx)) λ bm S=>?_;have:=S.size;have K0:=Φ zD S;refine cT (e:=129) (cs:=[.int .u64 (U (ll ([3,(f:Int),h])))]) Z (λ _=>GT) Z λ a9 bO T aS Od=>?_;have:=T.size;have aM:=Φ K0 T;have bE:=Od.lt;have D:=D.O (Φ l7 (Φ S T));refine ap ZU τ.O D (aO.G (R:=kY) (by_:=8) (q:=(ll ([3,(f:Int),h]))) Od ⟨Z,trivial⟩ GP) Z Z (by simp only[baj,baq];omega) (by simp only[baj,baq];omega) GE Z λ br YD ao Rh Zx ay aY=>?_;have Ii:=Ext.H aM Rh (λ q I=>bay GE (D.lt q I).1);refine va Z<|nl<|bK<|cW Z Z Z<|?_;have b:=(b.O (Φ l7 (Φ S T))).H Rh (λ I=>Co _ I rfl);exact cM ⟨f+1,o++ [(ll ([3,(f:Int),h]))],YD,ao,Z,Z,Ii,b,Zx,GE,by rw[V,E3,VL,ban AH];simp,(eh ay Co)⟩
   .have AH:h=0:=by simpa using Eu
    refine dP<|bK<|cW Z Z Z<|?_;exact cM ⟨f+1,o,y,E,Z,Z,N,b,D,GE,by rw[V,E3,VL,bap AH];simp,Co⟩
  .refine cI<|cH<|cU<|cG<|a7<|av<|ar<|κ (aj fC Z)<|a1 Z b gR Z<|κ (bY underlying26 Z)<|vm Z<|ax<|bp<|?_;refine di (λ H G l=>∃ i:Nat,∃ r:List (BitVec 64),∃ X:Option Addr,∃ ab:Nat,G=[(2,.int .u64 0),(3,J 0),(5,.slice X r.length ab),(77,.slice a.T W.ah.length a.t),(78,J (W.ah.length:Int)),(79,J (i:Int))]/\H=W.ah.length-i/\Ext w l/\kY.aM 129 8 l w.heap.size (τ.ai X) X ab r/\(i<=W.ah.length)/\(r=E1 W W.aT.length++E3 W W.bE.length++(W.ah.take i).map Rp)) _ _ ⟨0,o,y,E,Z,Z,N,D,GE,by rw[V,show f=W.bE.length by omega];simp⟩ (c' Z Z Z) ?_;rintro aX bL bs ⟨i,r,X,ab,rfl,rfl,P,C,VD,Ve⟩;have:=P.size;have aK:=b4 C.lt;refine ar<|cF Z Z<|ax<|av<|?_;refine c7 Z (λ aB=>?_) (λ aB=>?_)
   .obtain⟨t,y4⟩:∃ t,W.ah.getD i default=t:=⟨_,rfl⟩;obtain⟨kn,jh,jx,jQ,ko,oS,wy⟩:gg t.id/\gg t.H/\gg t.O/\gg t.an.x/\gg t.an.y/\gg t.K/\gg t.load:=bb.C g.T t (by rw[<-y4];exact gZ GE);have af:r.length<=W.aT.length+1+W.bE.length+i:=by rw[Ve,bam,bam,aeH,bbd,baf];have:=aeM W W.bE.length;omega
    refine bf<|av<|bp<|ar<|κ (bD i underlying26 eg Z Z ((g.T.be P).Y (aL i)) Z GE)<|κ (aq Z (τ.aF.G gm ((g.T.be P).O (aL i)) (show W.ah[i]? =some t by rw[<-y4];exact cg (u:=default) GE) oI eg))<|cy s_ Z λ bI bQ tQ aT m=>?_;have Sx:=Φ P tQ;have a4:=m.lt;refine ck Z Z m Z eg Z Z λ bu CP m=>?_;have:=CP.size;have Ik:=Ext.H Sx CP bn;refine ax<|rg<|vm Z<|κ (aj r6 Z)<|a1 Z m aH Z<|κ (aj ur Z)<|a1 Z m aH Z<|κ (aj Ar Z)<|a1 Z m aH Z<|κ (aj ld Z)<|κ (aj fj Z)<|a1 Z m aH Z<|κ (aj ld Z)<|κ (aj fk Z)<|a1 Z m aH Z<|κ (aj Ec Z)<|a1 Z m aH Z<|κ (aj r3 Z)<|a1 Z m aH Z<|cT (e:=3) (cs:=[J 4,J t.id,J t.H,J t.O,J t.an.x,J t.an.y,J t.K,J t.load]) Z (λ _=>GT) Z λ bv bx vq bB FO=>?_;have K3:=Φ Ik vq;have bF:=FO.lt;refine cf Uu Z (M3 ([4,t.id,t.H,t.O,t.an.x,t.an.y,t.K,t.load]) _ _ _ (aO.M (R:=bN) (by_:=8) (k:=[4,t.id,t.H,t.O,t.an.x,t.an.y,t.K,t.load]) FO [[J 4],[J t.id],[J t.H],[J t.O],[J t.an.x],[J t.an.y],[J t.K],[J t.load]] Z (⟨⟨Z,b7.2 GP⟩,⟨⟨Z,kn⟩,⟨⟨Z,jh⟩,⟨⟨Z,jx⟩,⟨⟨Z,jQ⟩,⟨⟨Z,ko⟩,⟨⟨Z,oS⟩,⟨⟨Z,wy⟩,trivial⟩⟩⟩⟩⟩⟩⟩⟩) Kx Kx)) λ bG KT=>?_;have:=KT.size;have SB:=Φ K3 KT;refine cT (e:=129) (cs:=[.int .u64 (U (ll ([4,t.id,t.H,t.O,t.an.x,t.an.y,t.K,t.load])))]) Z (λ _=>GT) Z λ bH bR zy aU YV=>?_;have:=zy.size;have K4:=Φ SB zy;have C:=((C.O tQ).H CP (bV aK)).O (Φ vq (Φ KT zy));refine ap ZU τ.O C (aO.G (R:=kY) (by_:=8) (q:=(ll ([4,t.id,t.H,t.O,t.an.x,t.an.y,t.K,t.load]))) YV ⟨Z,trivial⟩ GP) Z Z (by simp only[baj,baq];omega) (by simp only[baj,baq];omega) GE Z λ ba YG au aI Zz aR aZ=>?_;have aN:=Ext.H K4 aI (λ q I=>bay GE (C.lt q I).1);refine va Z<|nl<|bK<|cW Z Z Z<|?_;exact cM ⟨i+1,r++ [(ll ([4,t.id,t.H,t.O,t.an.x,t.an.y,t.K,t.load]))],YG,au,Z,Z,aN,Zz,GE,by rw[Ve,aK3 GE y4,baO];rfl⟩
   .refine cI<|cH<|cU<|cG<|a7<|aC Z<|cf aCq Z (aLT r _ _ _ C.bv) λ aQ al=>?_;have am:=Φ P al;refine va Z<|bc Z<|hE Z Z Z<|?_;exact⟨by unfold uV;rw[bap hc,hc,Ve,show i=W.ah.length by omega,ba7];rfl,am⟩
def aqC(a:ag.cS)(W:ag)(w:World)(b:ag.fd w a W):Calls prog 66 #[.agg (ag.cells a W).toArray] w (λ e w'=>e=.returned (.tuple #[.int .u64 (U (uV W)),J W.br])/\Ext w w'):=by
 by_cases c:W.br=0
 .exact aKQ a W w b c
 .exact aKP a W w b c
end
section
def ayb:dU prog kY 98 129 8:=dU.O (z:=.int .u64 0) (k:=1) underlying98 V9 rfl rfl GP (λ j u h=>Xn j u h)
open fg
theorem RH(a:ag.cS)(W:ag)(A:Option Addr)(c:Nat)(T:List gV)(L:List (List aS))(w:World)(bk:ag.fd w a W)(cc:nw.aF 24 w A c T)(Y:lU w T L):
  Calls prog 41 #[.agg ((ag.cells a W).toArray),.slice A T.length c] w (λ e w'=>∃ e' a' V S cn ms,e=.returned (.tuple #[.agg (ag.cells a' V).toArray,.slice S (ms:List (BitVec 64)).length cn,J e'])/\Ge W L e' V ms/\bF w' w.heap.size a' V/\kY.aM 129 8 w' w.heap.size (τ.ai S) S cn ms/\(∀ q,q∈τ.ai S->q∈bF.G a'->False)/\Ext w w'):=by
 refine bT (n:=64) func41 Z Z Z ?_;refine cZ Z Z λ ch Q aV cY f=>?_;have gp:=f.lt;refine cy nO Z λ dr X bh fl b=>?_;have:=bh.size;have bo:=Φ aV bh;have j8:=b.lt;refine va Z<|aG Z<|av<|aC Z<|κ (bY underlying29 Z)<|κ (gy Z Z)<|ax<|?_;refine c7 Z (λ hk=>?_) (λ hk=>?_)
 .refine ar<|κ (v:=.agg #[J 0,J 0,.slice none 0 0,.slice none 0 0,.slice none 0 0,.slice none 0 0,.slice none 0 0,J 0,J 0]) (ee Z)<|ck Z Z b Z bP Z Z λ rH wm b=>?_;have ib:=Ext.H bo wm bn;refine va Z<|bc Z<|bR<|cJ (.cell Z (b.all cD bP) (.tmp Z (.tmp Z .nil)))<|?_;exact⟨2,⟨none,none,none,none,none,0,0,0,0,0⟩,ag.zero,none,0,[],Z,.inr ⟨GP,.inl (by rw[<-Y.1];omega),rfl,rfl⟩,bF.zero _ _,τ.aM.nil _,λ q I=>by simp[τ.ai]at I,ib⟩
 .have an:L.length<=200:=by rw[<-Y.1];omega
  refine bf<|ar<|?_;have f:=f.O bh;refine κ (aq Z (f.all cD bP))<|ca akz Z Z ((ata ([]:List dw) _ _ a W _ (bk.be bo) (τ.aF.nil _)).mono ?_);rintro e ow ⟨af,a8,ba,rfl,r,aP,aI,H⟩;refine cR ?_;have:=H.size;have fP:=Φ bo H;have aw:=b4 r.lt;have JT:=dZ r.lt;refine vm Z<|bL Z Z<|bL Z Z<|bL Z Z<|?_;have f:=f.O H;refine st Z Z f Z bP Z Z Z λ vk M f=>?_;have:=M.size;have gw:=Ext.H fP M bn;refine va Z<|aG Z<|av<|aC Z<|cV Z Z<|ax<|?_;refine fr Z (λ K=>?_) (λ K=>?_)
  .have Ez:W.br≠0:=λ bu=>K (aai bu Kx);refine ar<|κ (v:=.agg #[J 0,J 0,.slice none 0 0,.slice none 0 0,.slice none 0 0,.slice none 0 0,.slice none 0 0,J 0,J 0]) (ee Z)<|vm Z<|?_;have b:=(b.O H).H M aJ;refine ck Z Z b Z bP Z Z λ H2 HC b=>?_;have vu:=Ext.H gw HC bn;refine va Z<|bc Z<|bR<|cJ (.cell Z (b.all cD bP) (.tmp Z (.tmp Z .nil)))<|?_;exact⟨oG W ([]:List dw),⟨none,none,none,none,none,0,0,0,0,0⟩,ag.zero,none,0,[],Z,.inr ⟨K,.inr (.inl Ez),Z,Z⟩,bF.zero _ _,τ.aM.nil _,λ q I=>by simp[τ.ai]at I,vu⟩
  .have nR:W.br=0:=(T6 (by first|exact K|simpa using K)).1;have JG:=atb nR;refine bf<|ar<|κ (aq Z (f.all cD bP))<|?_;have r:=r.H M (bx JT);refine cf akF Z (aqC af (rE W ([]:List dw)) _ r.bv) λ wN ir=>?_;have:=ir.size;have jD:=Φ gw ir;refine vm Z<|bL Z Z<|bL Z Z<|va Z<|aG Z<|aC Z<|cT (e:=129) (cs:=[.int .u64 (U (uV (rE W ([]:List dw))))]) Z (λ _=>GT) Z λ Bp aa N7 a4 aD=>?_;have n7:=Φ jD N7;refine aG Z<|av<|aC Z<|κ (bY underlying29 Z)<|vm Z<|ax<|bp<|?_;have OM:=aO.K (R:=kY) (by_:=8) (B:=w.heap.size) (k:=[uV (rE W ([]:List dw))]) aD [[.int .u64 (U (uV (rE W ([]:List dw))))]] rfl (⟨⟨rfl,trivial⟩,trivial⟩) Kx Kx GP GE;have qL:∀ q∈τ.ai (bd aa),q=aa:=λ q I=>bah.1 I;have eF:=(Φ ir N7);have f:=f.O eF;have r:=r.O eF;have b:=((b.O H).H M aJ).O eF;refine di (λ bJ bH G=>∃ k:Nat,∃ s:List (BitVec 64),∃ l:Option Addr,∃ jH:Nat,∃ p:ag.cS,∃ d:ag,bH=[(2,.pointer (bd Q)),(4,.pointer (bd X)),(11,.slice l s.length jH),(35,.slice A T.length c),(36,J (T.length:Int)),(37,J (k:Int))]/\bJ=T.length-k/\Ext w G/\aO G X [J 0,J 0,.slice none 0 0,.slice none 0 0,.slice none 0 0,.slice none 0 0,.slice none 0 0,J 0,J 0] 28 (0,0)/\kY.aM 129 8 G w.heap.size (τ.ai l) l jH s/\aO G Q (ag.cells p d) 28 (0,0)/\bF G w.heap.size p d/\(k<=T.length)/\(lI W (L.take k)=0)/\(d=qj W (L.take k))/\(s=Bc W (L.take k))/\(∀ q∈bF.G p,q=Q->False)/\(∀ q∈bF.G p,q=X->False)/\(∀ q∈τ.ai l,q=X->False)/\(∀ q∈τ.ai l,q=Q->False)/\(∀ q∈τ.ai l,q∈bF.G p->False)) _ _ ⟨0,[uV (rE W ([]:List dw))],some ⟨aa,0,none⟩,1,af,rE W ([]:List dw),Z,Z,n7,b,OM,f,(r.dq GE),GE,rfl,JG.1,(by rw[JG.1];rfl),(λ q I i=>by exfalso;(have:=JT q I;omega)),(λ q I i=>by exfalso;(have:=JT q I;omega)),(λ q I i=>by (have:=qL q I;omega)),(λ q I i=>by (have:=qL q I;omega)),(λ q I i=>by (have:=qL q I;(have:=aw q i;omega)))⟩ (c' Z Z Z) ?_;rintro aK a9 xZ ⟨k,s,l,jH,p,d,rfl,rfl,z,b,m,g,D,au,j2,y,P,ak,al,yI,GH,I2⟩;have:=z.size;have aM:=b.lt;have ah:=b4 m.lt;have Kj:=g.lt;have aZ:s.length<=k+1:=by rw[P,ase,baf];omega
   refine ar<|cF Z Z<|ax<|av<|?_;refine c7 Z (λ P_=>?_) (λ P_=>?_)
   .obtain⟨fQ,dC,o,gD,vZ,hx⟩:=Y.d9 (k:=k) GE;refine bf<|av<|bp<|ar<|κ (bD k underlying29 Ao Z Z ((cc.be z).Y (aL k)) Z GE)<|κ (v:=.slice fQ o.length dC) (aq Z (τ.aF.H Mx ((cc.be z).O (aL k)) gD Z nb))<|aG Z<|av<|ar<|κ (aq Z (g.all cD bP))<|vm Z<|ca abe Z Z ((RU p d _ _ o _ D.bv (hx.be z)).mono ?_);rintro e a6 ⟨F,ay,aX,az,aY,aA,aU,rfl,j,aQ,aR,aT,ad,x⟩;refine cR ?_;have:=x.size;have SD:=Φ z x;have KA:=b4 j.lt;have E:=dZ j.lt;have a0:∀ q∈τ.ai ay,q∈bF.G F->False:=λ q I=>ad q (.inl I);have a1:∀ q∈τ.ai az,q∈bF.G F->False:=λ q I=>ad q (.inr (.inl I));have a2:∀ q∈τ.ai aA,q∈bF.G F->False:=λ q I=>ad q (.inr (.inr I));refine vm Z<|bL Z Z<|bL Z Z<|bL Z Z<|?_;have g:=g.O x;refine st Z Z g Z bP Z Z Z λ R8 u g=>?_;have:=u.size;have yk:=Ext.H SD u bn;refine aG Z<|aC Z<|cV Z Z<|ax<|?_;refine fr Z (λ O=>?_) (λ O=>?_)
    .refine ar<|κ (v:=.agg #[J 0,J 0,.slice none 0 0,.slice none 0 0,.slice none 0 0,.slice none 0 0,.slice none 0 0,J 0,J 0]) (ee Z)<|vm Z<|?_;have b:=(b.O x).H u aJ;refine ck Z Z b Z bP Z Z λ a5 oh b=>?_;have K7:=Ext.H yk oh bn;refine va Z<|bc Z<|bR<|dO<|bR<|k1<|dO<|bR<|cJ (.cell Z (b.all cD bP) (.tmp Z (.tmp Z .nil)))<|?_;exact⟨ji d o,⟨none,none,none,none,none,0,0,0,0,0⟩,ag.zero,none,0,[],Z,.inr ⟨O,.inr (.inr (Xs (k:=k+1) (by rw[afv j2 vZ,<-y];exact O))),Z,Z⟩,bF.zero _ _,τ.aM.nil _,λ q I=>by simp[τ.ai]at I,K7⟩
    .have ao:lI W (L.take (k+1))=0:=by rw[afv j2 vZ,<-y];first|exact O|simpa using O
     refine bf<|ar<|κ (aq Z (g.all cD bP))<|?_;have j:=j.H u (bx E);refine cf akF Z (aqC F (oU d o) _ j.bv) λ C_ t=>?_;have:=t.size;have pT:=Φ yk t;refine vm Z<|bL Z Z<|bL Z Z<|aG Z<|rg<|vm Z<|vm Z<|cT (e:=129) (cs:=[.int .u64 (U (uV (oU d o)))]) Z (λ _=>GT) Z λ KK aW C a3 ai=>?_;have qA:=Φ pT C;have aH:=ai.lt;have m:=((m.O x).H u (bM GH)).O (Φ t C);refine ap ayb τ.O m (aO.G (R:=kY) (by_:=8) (q:=(uV (oU d o))) ai ⟨Z,trivial⟩ GP) Z Z (by simp only[baj,baq];omega) (by simp only[baj,baq];omega) GE Z λ Sc aB am N aE ab aF=>?_;have BE:=Ext.H qA N (λ q I=>bay GE (m.lt q I).1);refine va Z<|nl<|bK<|cW Z Z Z<|?_;have b:=(((b.O x).H u aJ).O (Φ t C)).H N (λ I=>yI _ I rfl);have g:=(g.O (Φ t C)).H N (λ I=>GH _ I rfl);have D:=(((D.O x).H u (bM ak)).O (Φ t C)).H N (fa I2);have j:=(j.O (Φ t C)).H N (λ q I h=>by exfalso;(have:=E q I;(have:=ah q h;omega)));exact cM ⟨k+1,s++ [(uV (oU d o))],aB,am,F,oU d o,Z,Z,BE,b,aE,g,(j.dq GE),GE,ao,by rw[C2 vZ,asc,y];rfl,by rw[P,C2 vZ,asf,y],(λ q I i=>by exfalso;(have:=E q I;omega)),(λ q I i=>by exfalso;(have:=E q I;omega)),(eh ab yI),(eh ab GH),(λ q I i=>by (exact baC (ab q I) (λ aj=>by (have:=E q i;(have:=ah q aj;omega))) (λ aj=>by (have:=KA q i;omega))))⟩
   .have nP:k=L.length:=by rw[<-Y.1];omega
    refine cI<|cH<|cU<|cG<|a7<|ar<|κ (aq Z (g.all cD bP))<|vm Z<|st Z Z b Z bP Z Z Z λ aN ae b=>?_;have Yp:=Ext.H z ae bn;refine va Z<|bc Z<|cJ (.cell Z (b.all cD bP) (.tmp Z (.tmp Z .nil)))<|?_;have m:=m.H ae (bM yI);have D:=D.H ae (bM al);rw[nP,ba7]at j2 y P;exact⟨0,p,d,l,jH,s,Z,.inl ⟨Z,an,nR,j2,y,P⟩,D.dq GE,m,λ q I hf=>by exfalso;(exact I2 q I hf),Yp⟩
end
section
def zF(D:Nat)(w w':World):Prop:=w.heap.size<=w'.heap.size/\(D<=w.heap.size->Below D w w')
def zF.U(D:Nat)(w:World):zF D w w:=⟨bao _,λ _=>baL _ w⟩
def zF.O{D:Nat}{a b c:World}(h:zF D a b)(k:zF D b c):zF D a c:=⟨bay h.1 k.1,λ d=>Below.trans (h.2 d) (k.2 (bay d h.1))⟩
def zF.at{a b:World}(h:zF a.heap.size a b):Ext a b:=h.2 (bao _)
section
variable{D:Nat}{P:Program}{ops:Array Oper}{Q:Exit->Act->World->Prop}{a_:Nat->Nat}
def ah2(D:Nat)(P:Program)(b:Array Oper)(c:World)(o:Oper)(v:Value)(a:Act):Prop :=
  (Region.wanted o (yielded b a.tmps)=true/\∀ w,zF D c w->CX P w v ((execOp a.eval o).run P w))\/
  (Region.wanted o (yielded b a.tmps)=false/\v=undef)
def aPt(D:Nat)(P:Program)(d:Array Oper)(Q:Exit->Act->World->Prop)(c:Nat->Nat)(i:Nat)(K:Act->World->Prop)(a:Act)(b:World):Prop :=
  ∃ o,d[i]? =some o/\
    ((c i<=1/\∃ v,ah2 D P d b o v a/\K (a.put o.dst v) b)\/
     (1<c i/\∀ w,Ext b w->wpOp P d Q i (λ e w'=>(c i=2->zF D b w')/\K e w') a w))
def ayD(D:Nat)(P:Program)(b:Array Oper)(Q:Exit->Act->World->Prop)(c:Nat->Nat):Nat->Array Bool->Act->World->Prop
  | 0,l,a,w0=>Region.ready .any b l=[]/\∀ w,Ext w0 w->Q .normal a w
  | f+1,l,a,w0=>(Region.ready .any b l=[]->∀ w,Ext w0 w->Q .normal a w)/\∀ i∈Region.ready .any b l,aPt D P b Q c i (ayD D P b Q c f (l.setIfInBounds i true)) a w0
def N1(D:Nat)(P:Program)(c:Array Oper)(Q:Exit->Act->World->Prop)(b:Nat->Nat):List Nat->Act->World->Prop
  | [],a,w0=>∀ w,Ext w0 w->Q .normal a w
  | i::r,a,w0=>∃ o,c[i]? =some o/\
      ((b i=0/\∃ v,ah2 D P c w0 o v a/\N1 D P c Q b r (a.put o.dst v) w0)\/
       (b i=1/\∃ v,Yields P c o v a/\N1 D P c Q b r (a.put o.dst v) w0)\/
       (1<b i/\∀ w,Ext w0 w->wpOp P c Q i (λ d w'=>(b i=2->zF D w0 w')/\N1 D P c Q b r d w') a w))
end
section
variable{D:Nat}{P:Program}{n:Nat}{E df:List (Nat×Value)}{a:Act}{w w' w0 a8:World}{Q:Exit->Act->World->Prop}{ops:Array Oper}{v:Value}{a_:Nat->Nat}
variable{d:Option Nat}{ty:TypeId}{pos:String}{af:Array Edge}{g:Option (Nat×Bool)}{x y z:Operand}{t:TypeId}{rest:List Oper}{cd:List Nat}{i:Nat}
def aT7(D:Nat)(P:Program)(n:Nat)(d:Array Oper)(Q:Exit->Act->World->Prop)(b:Nat->Nat)(c:List Nat)(E:List (Nat×Value))(e:World):Prop:=∀ a,fz n E a->N1 D P d (i_ (Q .normal)) b c a e
end
end
section
section
variable{D:Nat}{P:Program}{n:Nat}{E:List (Nat×Value)}{w:World}{Q:Exit->Act->World->Prop}{ops:Array Oper}{a_:Nat->Nat}
def Ye(D:Nat)(P:Program)(c:Array Oper)(Q:Exit->Act->World->Prop)(b:Nat->Nat):eC->Act->World->Prop
 | .last i d=>N1 D P c (i_ (Q .normal)) b (i::d)
 | .two i d e f=>N1 D P c (i_ (λ a w=>Ye D P c Q b e a w/\Ye D P c Q b f a w)) b (i::d)
def aS8(D:Nat)(P:Program)(c:Array Oper)(Q:Exit->Act->World->Prop)(b:Nat->Nat)(d e:eC):Exit->Act->World->Prop:=i_ (λ a w=>Ye D P c Q b d a w/\Ye D P c Q b e a w)
end
end
section
variable{e:Int}{V:ag}
open fg
def qF(W:ag)(L:List (List aS)):Prop:=L.length<=200/\W.br=0/\lI W L=0
def aS5(W:ag)(L:List (List aS))(n e:Int)(V:ag):Prop :=
 (e=0/\qF W L/\0<=n/\n<=(L.length:Int)/\V=qj W (L.take n.toNat))\/(e≠0/\¬(qF W L/\0<=n/\n<=(L.length:Int))/\V=ag.zero)
def Ge.XC{W:ag}{L:List (List aS)}{f:List (BitVec 64)}(h:Ge W L e V f):e=0↔qF W L :=
 ⟨λ d=>by obtain⟨a,b,c,_,_⟩:=h.ok d;exact⟨a,b,c⟩,λ⟨a,b,c⟩=>(h.zero a b c).1⟩
def qF.take{W:ag}{L:List (List aS)}(h:qF W L)(k:Nat):qF W (L.take k):=
 ⟨by have:=h.1;rw[baf];omega,h.2.1,bbt λ a=>Xs a h.2.2⟩
def qF.d9{W:ag}{L:List (List aS)}{n:Int}{g:List (BitVec 64)}(h:qF W L)(f:Ge W (L.take n.toNat) e V g)(c:0<=n)(d:n<=(L.length:Int)):e=0/\qF W L/\0<=n/\n<=(L.length:Int)/\V=qj W (L.take n.toNat):=by
 have a:=h.take n.toNat;have b:=f.zero a.1 a.2.1 a.2.2;exact⟨b.1,h,c,d,b.2.1⟩
def lU.take{w:World}{T:List gV}{L:List (List aS)}(h:lU w T L)(k:Nat):lU w (T.take k) (L.take k):=
 ⟨by rw[baf,baf,h.1],λ i v a=>by
  rw[baR]at a;split at a
  .next b =>
   obtain⟨l,c,d,e⟩:=h.2 i v a;exact⟨l,by rw[baR,bap b];exact c,d,e⟩
  .exact absurd a Kx⟩
theorem aAu(a:ag.cS)(W:ag)(A:Option Addr)(c:Nat)(T:List gV)(L:List (List aS))(w:World)(k:ag.fd w a W)(l:nw.aF 24 w A c T)(m:lU w T L):
  Calls prog 30 #[.agg #[J W.am.O,J W.am.high,.slice a.P W.am.G.length a.p,.slice a.B W.aT.length a.b,.slice a.S W.bl.length a.s,.slice a.M W.bE.length a.m,.slice a.T W.ah.length a.t,J W.next,J W.db,.slice A T.length c]] w (λ e w'=>∃ f:Int,e=.returned (J f)/\(f=0↔qF W L)/\Ext w w'):=by
 refine bT (n:=16) func30 Z Z Z ?_;refine cZ Z Z λ H x b G d=>?_;have M:=d.lt;refine aG Z<|ar<|κ (aj Ee Z)<|κ (aq Z (d.Y [J W.am.O,J W.am.high,.slice a.P W.am.G.length a.p,.slice a.B W.aT.length a.b,.slice a.S W.bl.length a.s,.slice a.M W.bE.length a.m,.slice a.T W.ah.length a.t,J W.next,J W.db] cD bP Z))<|κ (aj uo Z)<|a1 Z d yM Z<|ca Px Z Z ((RH a W _ _ T L _ (k.be b) (l.be b) (m.be b)).mono ?_);rintro e t ⟨i,u,F,y,K,D,rfl,j,z,B,C,h⟩;refine cR ?_;have:=h.size;have r:=Φ b h;refine vm Z<|bL Z Z<|bL Z Z<|bL Z Z<|cy nO Z λ N E o v g=>?_;have q:=Φ r o;refine st Z Z g Z bP Z Z Z λ O p g=>?_;have s:=Ext.H q p bn;refine va Z<|aG Z<|aC Z<|bc Z<|b3 Z Z<|?_;exact⟨i,Z,j.XC,s⟩
end
theorem aIP(b:FuncId)(cs:List Value)(p:aS->Bool)(A:Option Addr)(c:Nat)(l:List aS)(w:World)(g:aS.ce.aF 48 w A c l)(t:Enters prog b)(s:∀ x∈l,∀ w',Ext w w'->Calls prog b (([.agg #[J x.by_,J x.O,J x.H,J x.an.x,J x.an.y,J x.Y]]:List Value)++cs).toArray w' λ e v=>e=.returned (.bool (p x))/\Ext w' v):
  Calls prog 118 #[.slice A l.length c,.func (.func b) #[] cs.toArray] w (λ e w'=>e=.returned (J (fK p l))/\Ext w w'):=by
 have G:=g.M;refine bT (n:=19) func118 Z Z Z ?_;refine ar<|aG Z<|av<|aC Z<|κ (bY underlying76 Z)<|vm Z<|ax<|bp<|?_;refine di (λ r q m=>∃ k:Nat,q=[(0,.slice A l.length c),(1,.func (.func b) #[] cs.toArray),(7,J (l.length:Int)),(8,J (k:Int))]/\r=l.length-k/\Ext w m/\(k<=l.length)/\(∀ i,i<k->p (l.getD i default)=false)) _ _ ⟨0,Z,Z,(Ext.U w),GE,λ i o=>GE⟩ (c' Z Z Z) ?_;rintro D B F ⟨k,rfl,rfl,a,E,f⟩;refine ar<|cF Z Z<|ax<|av<|?_;refine c7 Z (λ y=>?_) (λ y=>?_)
 .refine bf<|av<|bp<|aC Z<|aG Z<|aC Z<|vm Z<|vm Z<|κ (bD k underlying76 eu Z Z ((g.be a).Y (aL k)) Z GE)<|κ (aq Z (τ.aF.G yX ((g.be a).O (aL k)) (cg (l:=l) (u:=default) GE) iw eu))<|Ae t Z Z Z ((s (l.getD k default) (gZ GE) _ a).mono ?_);rintro e C ⟨rfl,z⟩;refine cR ?_;have j:=Φ a z;refine ax<|?_;refine dB Z (λ h=>?_) (λ h=>?_)
  .refine aC Z<|bc Z<|dO<|bR<|k1<|dO<|bR<|b3 Z Z<|?_;exact⟨by have e:=JN (p:=p) (l:=l) (d:=default) (k:=k) GE h f;rw[e];rfl,j⟩
  .refine dP<|bK<|cW Z Z Z<|?_;exact cM ⟨k+1,Z,Z,j,GE,pC f h⟩
 .refine cI<|cH<|cU<|cG<|a7<|ar<|bc Z<|b3 Z Z<|?_;exact⟨by have e:=JM (p:=p) (l:=l) (d:=default) (λ i o=>f i GE);rw[e];rfl,a⟩
section
open fg
structure bU where
 a:Option Addr
 n:Nat
 c:Nat
 Y:Int
 da:Bool
instance:Inhabited bU:=⟨⟨none,0,0,0,false⟩⟩
def bU.jy(v:bU):gV:=⟨v.a,v.n,v.c⟩
def bU.raw(j:Nat)(u:Value):Prop:=match j with
 | 0=>∃ a n c,u=.slice a n c
 | 1=>∃ n:Int,u=.int .i64 n
 | 2=>∃ b:Bool,u=.bool b
 | _=>True
def bU.cells(v:bU):List Value:=[.slice v.a v.n v.c,J v.Y,.bool v.da]
def bU.ce:τ bU:=τ.flat 3 bU.cells (λ v=>gg v.Y) bU.raw (λ _=>rfl) (by intro a u b;simp[bU.cells]at b;rcases b with rfl|rfl|rfl<;>rfl) (by
 intro a j u b
 match j,b with
 | 0,b=>exact⟨_,_,_,(bae b).symm⟩
 | 1,b|2,b=>exact⟨_,(bae b).symm⟩
 | j+3,b=>exact trivial)
def mG{w:World}{cs:List Value}{a:bU}(h:bU.ce.bv w cs a):cs=a.cells:=bcs (show cs=a.cells/\gg a.Y from h)
def bU.zero:Value:=.agg #[.slice none 0 0,J 0,.bool false]
def bU.M:∀(j:Nat) u,bU.zero.cells[j]? =some u->bU.ce.raw j u:=by
 intro j u a;have a:(#[(.slice none 0 0:Value),(J 0:Value),(.bool false:Value)]:Array Value)[j]? =some u:=a
 match j,a with
 | 0,a=>exact⟨_,_,_,(bae a).symm⟩
 | 1,a|2,a=>exact⟨_,(bae a).symm⟩
 | j+3,a=>simp at a
def bU.G:(prog.info? 78).map (λ i=>(i.zero,i.size,i.bytes))=some (some bU.zero,3,40):=GT
def bU.C{by_:Nat}{w:World}{A:Option Addr}{c:Nat}{l:List bU}(h:bU.ce.aF by_ w A c l):∀ a∈l,gg a.Y:=τ.aF.D1 (R:=bU.ce) (Q:=λ a=>gg a.Y) (λ{w cs a} (h:bU.ce.bv w cs a)=>(show cs=a.cells/\gg a.Y from h).2) h
structure cq where
 O:List aS
 Y:Int
 da:Bool
 deriving DecidableEq
def n9(w:World)(T:List bU)(S:List cq):Prop:=lU w (T.map bU.jy) (S.map cq.O)/\T.map (λ v=>(v.Y,v.da))=S.map (λ s=>(s.Y,s.da))
section
variable{w w':World}{T lT:List bU}{S pX:List cq}{k:Nat}
def n9.len(h:n9 w T S):T.length=S.length:=by have:=h.1.1;simpa using this
def n9.be(h:n9 w T S)(x:Ext w w'):n9 w' T S:=⟨h.1.be x,h.2⟩
theorem n9.d9(h:n9 w T S)(e:k<T.length):∃ A c s,T[k]? =some ⟨A,s.O.length,c,s.Y,s.da⟩/\S[k]? =some s/\aS.ce.aF 48 w A c s.O:=by
 have i:k<S.length:=by rw[<-h.len];exact e
 obtain⟨A,c,l,b,d,j⟩:=h.1.d9 (k:=k) (by simpa using e);rw[bau,bac e]at b;rw[bau,bac i]at d;have f:=bbh (λ l=>l[k]?) h.2;simp only[bau,bac e,bac i,bbR,bcD,be3]at f;have b:=bae b;have d:=bae d;refine⟨A,c,S[k],?_,bac i,by rw[d];exact j⟩;rw[bac e,d];generalize T[k]=t at b f;obtain⟨a,n,o,m,g⟩:=t;simp only[bU.jy,gV.mk.injEq]at b;obtain⟨rfl,rfl,rfl⟩:=b;rw[<-f.1,<-f.2]
end
def cq.H(p:Int)(s:cq):Bool:= !(decide (s.Y<0) || decide (1000000<s.Y) || (s.da && (s.Y != 0 || decide (0<(s.O.length:Int))))) && !s.O.any λ o=>o.by_ != p || o.br != 0
def vH(S:List cq):Prop:=1<=S.length/\S.length<=8/\∀(i:Nat) (s:cq),S[i]? =some s->s.O.length<=50/\s.H i=true
def aOS{S:List cq}{k:Nat}{b:cq}(c:∀(i:Nat) (s:cq),i<k->S[i]? =some s->s.H i=true)(d:S[k]? =some b)(e:b.H k=true){i:Nat}{s:cq}(f:i<k+1)(a:S[i]? =some s):s.H i=true:=by
 rcases ba2 i k with h|h
 .exact c i s h a
 .obtain rfl:i=k:=GE
  rw[d]at a;obtain rfl:=bae a;exact e
def aOO{w:World}{T:List bU}{S:List cq}(j:n9 w T S)(h:(T.any λ t=>decide (50<(t.n:Int)))=true):¬vH S:=λ f=>by
 obtain⟨t,e,b⟩:=bbD.1 h;obtain⟨i,d,rfl⟩:=bbf.1 e;obtain⟨A,c,s,a,g,_⟩:=j.d9 d;rw[bac d]at a;rw[bae a]at b;have:=(f.2.2 i s g).1;simp at b;omega
def aOR{w:World}{T:List bU}{S:List cq}(e:n9 w T S)(h:(T.any λ t=>decide (50<(t.n:Int)))=false):∀(i:Nat) (s:cq),S[i]? =some s->s.O.length<=50:=λ i s f=>by
 have a:i<T.length:=by rw[e.len];exact(bab.1 f).1
 obtain⟨A,c,g,b,d,_⟩:=e.d9 a;rw[f]at d;obtain rfl:=bae d;rw[bac a]at b;have:=bcm.1 h T[i] (bbl a);rw[bae b]at this;simp at this;omega
theorem aGd(a:FuncId)(cs:List Value)(p:aS->Bool)(A:Option Addr)(c:Nat)(l:List aS)(w:World)(b:aS.ce.aF 48 w A c l)(i:Enters prog a)(d:∀ x∈l,∀ w',Ext w w'->Calls prog a (([.agg #[J x.by_,J x.O,J x.H,J x.an.x,J x.an.y,J x.Y]]:List Value)++cs).toArray w' λ e j=>e=.returned (.bool (p x))/\Ext w' j):
  Calls prog 83 #[.slice A l.length c,.func (.func a) #[] cs.toArray] w (λ e w'=>e=.returned (.bool (l.any p))/\Ext w w'):=by
 refine bT (n:=9) func83 Z Z Z ?_;refine ar<|aG Z<|aC Z<|vm Z<|cf aCr Z (aIP a cs p _ _ l _ (b.be (Ext.U w)) i (λ x g w' h=>d x g w' (Φ (Ext.U w) h))) λ k f=>?_;refine κ (iV Z Z)<|bc Z<|b3 Z Z<|?_;exact⟨by rw[MW];rfl,f⟩
theorem aIQ(b:FuncId)(cs:List Value)(p:bU->Bool)(A:Option Addr)(c:Nat)(l:List bU)(w:World)(g:bU.ce.aF 40 w A c l)(t:Enters prog b)(s:∀ x∈l,∀ w',Ext w w'->Calls prog b (([.agg #[.slice x.a x.n x.c,J x.Y,.bool x.da]]:List Value)++cs).toArray w' λ e v=>e=.returned (.bool (p x))/\Ext w' v):
  Calls prog 82 #[.slice A l.length c,.func (.func b) #[] cs.toArray] w (λ e w'=>e=.returned (J (fK p l))/\Ext w w'):=by
 have G:=g.M;refine bT (n:=19) func82 Z Z Z ?_;refine ar<|aG Z<|av<|aC Z<|κ (bY underlying33 Z)<|vm Z<|ax<|bp<|?_;refine di (λ r q m=>∃ k:Nat,q=[(0,.slice A l.length c),(1,.func (.func b) #[] cs.toArray),(7,J (l.length:Int)),(8,J (k:Int))]/\r=l.length-k/\Ext w m/\(k<=l.length)/\(∀ i,i<k->p (l.getD i default)=false)) _ _ ⟨0,Z,Z,(Ext.U w),GE,λ i o=>GE⟩ (c' Z Z Z) ?_;rintro D B F ⟨k,rfl,rfl,a,E,f⟩;refine ar<|cF Z Z<|ax<|av<|?_;refine c7 Z (λ y=>?_) (λ y=>?_)
 .refine bf<|av<|bp<|aC Z<|aG Z<|aC Z<|vm Z<|vm Z<|κ (bD k underlying33 ih Z Z ((g.be a).Y (aL k)) Z GE)<|κ (aq Z (τ.aF.G mG ((g.be a).O (aL k)) (cg (l:=l) (u:=default) GE) vT ih))<|Ae t Z Z Z ((s (l.getD k default) (gZ GE) _ a).mono ?_);rintro e C ⟨rfl,z⟩;refine cR ?_;have j:=Φ a z;refine ax<|?_;refine dB Z (λ h=>?_) (λ h=>?_)
  .refine aC Z<|bc Z<|dO<|bR<|k1<|dO<|bR<|b3 Z Z<|?_;exact⟨by have e:=JN (p:=p) (l:=l) (d:=default) (k:=k) GE h f;rw[e];rfl,j⟩
  .refine dP<|bK<|cW Z Z Z<|?_;exact cM ⟨k+1,Z,Z,j,GE,pC f h⟩
 .refine cI<|cH<|cU<|cG<|a7<|ar<|bc Z<|b3 Z Z<|?_;exact⟨by have e:=JM (p:=p) (l:=l) (d:=default) (λ i o=>f i GE);rw[e];rfl,a⟩
theorem aGe(a:FuncId)(cs:List Value)(p:bU->Bool)(A:Option Addr)(c:Nat)(l:List bU)(w:World)(b:bU.ce.aF 40 w A c l)(i:Enters prog a)(d:∀ x∈l,∀ w',Ext w w'->Calls prog a (([.agg #[.slice x.a x.n x.c,J x.Y,.bool x.da]]:List Value)++cs).toArray w' λ e j=>e=.returned (.bool (p x))/\Ext w' j):
  Calls prog 54 #[.slice A l.length c,.func (.func a) #[] cs.toArray] w (λ e w'=>e=.returned (.bool (l.any p))/\Ext w w'):=by
 refine bT (n:=9) func54 Z Z Z ?_;refine ar<|aG Z<|aC Z<|vm Z<|cf aCs Z (aIQ a cs p _ _ l _ (b.be (Ext.U w)) i (λ x g w' h=>d x g w' (Φ (Ext.U w) h))) λ k f=>?_;refine κ (iV Z Z)<|bc Z<|b3 Z Z<|?_;exact⟨by rw[MW];rfl,f⟩
theorem aPm(o:aS)(p:Int)(b:Nat)(w:World)(c:aO w b [J p] 3 (0,0)):
  Calls prog 84 #[.agg #[J o.by_,J o.O,J o.H,J o.an.x,J o.an.y,J o.Y],.pointer (bd b)] w (λ e w'=>e=.returned (.bool (o.by_ != p || o.br != 0))/\Ext w w'):=by
 refine bT (n:=13) func84 Z Z Z ?_;refine cZ Z Z λ k i d j f=>?_;refine aG Z<|ar<|κ (aj ri Z)<|a1 Z f aH Z<|?_;have c:=c.O d;refine a1 Z c aH Z<|cV Z Z<|vm Z<|aR Z (λ a=>aq Z (f.all iw eu))<|iD Z aa8 (λ a=>b6 (gt a Z) Z) (λ a=>aeQ o _) λ l h=>?_;have g:=Φ d h;refine aR Z (λ a=>bne (gt a Z) Z)<|κ (dS Z Z Z Z)<|bc Z<|b3 Z Z<|?_;exact⟨Z,g⟩
theorem aPn(A:Option Addr)(c:Nat)(s:cq)(p:Int)(w:World)(l:aS.ce.aF 48 w A c s.O):
  Calls prog 56 #[.agg #[.slice A s.O.length c,J s.Y,.bool s.da],J p] w (λ e w'=>e=.returned (.bool (s.H p))/\Ext w w'):=by
 refine bT (n:=33) func56 Z Z Z ?_;refine cZ Z Z λ u r j t b=>?_;refine gz Z Z λ v g i y k=>?_;have d:=Φ j i;refine aG Z<|av<|ar<|κ (aj Cp Z)<|?_;have b:=b.O i;refine a1 Z b aH Z<|cF Z Z<|vm Z<|aR Z (λ a=>aj Cp Z)<|aR Z (λ a=>aq (gt a Z) (b.one aH Z))<|aR Z (λ a=>gy (gt a Z) Z)<|κ (dS Z Z Z Z)<|vm Z<|aR Z (λ a=>aj Cq Z)<|aR Z (λ a=>aq (gt a Z) (b.one At Z))<|Bk Z (λ a=>(gt a Z))<|dV Z Z Z Z (λ a=>aj Cp Z) Z<|dV Z Z Z Z (λ a=>aq (gt a Z) (b.one aH Z)) Z<|dV Z Z Z Z (λ a=>bne (gt a Z) Z) Z<|dV Z Z Z Z (λ a=>fW (gt a Z)) Z<|dV Z Z Z Z (λ a=>aj p3 Z) Z<|dV Z Z Z Z (λ a=>aq (gt a Z) (b.one nb Z)) Z<|dV Z Z Z Z (λ a=>bY underlying76 (gt a Z)) Z<|dV Z Z Z Z (λ a=>gy (gt a Z) Z) Z<|dV Z Z Z Z (λ a=>Rw a (gt a Z) Z Z) Z<|aR Z (λ a=>E7 a (gt a Z) Z Z)<|κ (dS Z Z Z Z)<|ax<|?_;refine dB Z (λ f=>?_) (λ f=>?_)
 .refine ar<|bc Z<|bR<|b3 Z Z<|?_;exact⟨by unfold cq.H;rw[f];rfl,d⟩
 .refine bf<|ar<|κ (aj p3 Z)<|a1 Z b nb Z<|κ (A3 Z Z)<|cf aCu Z (aGd 84 [.pointer (bd g)] (λ o=>o.by_ != p || o.br != 0) _ _ s.O _ (l.be d) aCt (λ x z w' h=>aPm x p g w' (k.O h))) λ B m=>?_;have q:=Φ d m;refine κ (dj Z)<|bc Z<|b3 Z Z<|?_;exact⟨by unfold cq.H;rw[f];rfl,q⟩
def aOJ(t:bU)(w:World):
  Calls prog 55 #[.agg #[.slice t.a t.n t.c,J t.Y,.bool t.da]] w (λ e w'=>e=.returned (.bool (decide (50<(t.n:Int))))/\Ext w w'):=by
 refine bT (n:=7) func55 Z Z Z ?_;refine cZ Z Z λ f c a d b=>?_;refine aG Z<|ar<|κ (aj p3 Z)<|a1 Z b nb Z<|κ (bY underlying76 Z)<|κ (gy Z Z)<|bc Z<|b3 Z Z<|?_;exact⟨Z,a⟩
theorem Xw(A:Option Addr)(c:Nat)(T:List bU)(S:List cq)(w:World)(j:bU.ce.aF 40 w A c T)(b:n9 w T S):
  Calls prog 31 #[.slice A T.length c] w (λ e w'=>∃ y:Int,e=.returned (J y)/\(y=0↔vH S)/\Ext w w'):=by
 have Y:=j.M;refine bT (n:=27) func31 Z Z Z ?_;refine ar<|aG Z<|av<|aC Z<|κ (bY underlying33 Z)<|cF Z Z<|vm Z<|er Z Z<|aR Z (λ o=>bY underlying33 (gt o Z))<|aR Z (λ o=>gy (gt o Z) Z)<|κ (dS Z Z Z Z)<|ax<|?_;refine dB Z (λ d=>?_) (λ d=>?_)
 .simp only[cb]at d;refine ar<|bc Z<|bR<|b3 Z Z<|?_;exact⟨1,Z,⟨λ a=>absurd a GP,λ a=>absurd a (by rintro⟨aa,ab,_⟩;have:=b.len;omega)⟩,(Ext.U w)⟩
 .simp only[cb]at d;refine bf<|av<|aC Z<|cf aCw Z (aGe 55 [] (λ t=>decide (50<(t.n:Int))) _ _ T _ (j.be (Ext.U w)) aCv (λ x C w' h=>aOJ x w')) λ kr r=>?_;refine ax<|?_;refine dB Z (λ q=>?_) (λ q=>?_)
  .refine ar<|bc Z<|bR<|b3 Z Z<|?_;exact⟨2,Z,⟨λ a=>absurd a GP,λ a=>absurd a (λ a=>aOO b q a)⟩,r⟩
  .have G:=aOR b q;refine bf<|av<|aC Z<|κ (bY underlying33 Z)<|vm Z<|ax<|bp<|?_;refine di (λ L K F=>∃ k:Nat,K=[(15,.slice A T.length c),(16,J (T.length:Int)),(17,J (k:Int))]/\L=T.length-k/\Ext w F/\(k<=T.length)/\(∀(i:Nat) (s:cq),i<k->S[i]? =some s->s.H i=true)) _ _ ⟨0,Z,Z,r,GE,λ i s v=>GE⟩ (c' Z Z Z) ?_;rintro ad ae X ⟨k,rfl,rfl,g,au,u⟩;have:=g.size;refine ar<|cF Z Z<|ax<|av<|?_;refine c7 Z (λ R=>?_) (λ R=>?_)
   .obtain⟨P,M,m,Q,D,C⟩:=b.d9 (k:=k) GE;refine bf<|av<|bp<|aC Z<|κ (bD k underlying33 ih Z Z ((j.be g).Y (aL k)) Z GE)<|κ (aq Z (τ.aF.G mG ((j.be g).O (aL k)) Q vT ih))<|cy GN Z λ sM ke O M0 p=>?_;have U:=Φ g O;refine va Z<|ck Z Z p Z ih Z Z λ nY W p=>?_;have B:=Ext.H U W bn;refine ax<|ar<|κ (aq Z (p.all vT ih))<|vm Z<|cf aCx Z (aPn P M m (k:Int) _ (C.be B)) λ mn N=>?_;have z:=Φ B N;refine κ (dj Z)<|ax<|?_;refine dB Z (λ l=>?_) (λ l=>?_)
    .refine ar<|bc Z<|dO<|bR<|k1<|dO<|bR<|b3 Z Z<|?_;exact⟨4,Z,⟨λ a=>absurd a GP,λ a=>absurd a (λ a=>by have V:=(a.2.2 k m D).2;rw[V]at l;cases l)⟩,z⟩
    .have E:m.H k=true:=by simpa using l
     refine dP<|bK<|cW Z Z Z<|?_;exact cM ⟨k+1,Z,Z,z,GE,λ i s v f=>aOS u D E v f⟩
   .refine cI<|cH<|cU<|cG<|a7<|ar<|bc Z<|b3 Z Z<|?_;exact⟨0,Z,⟨λ _=>⟨by have:=b.len;have H:=d;omega,by have:=b.len;have H:=d;omega,λ i s f=>⟨G i s f,u i s (by have:=(bab.1 f).1;have:=b.len;omega) f⟩⟩,λ _=>Z⟩,g⟩
end
def abH{w:World}:∀ {ess:List (List Value)} {l:List Int},dX (λ es a=>bN.bv w es a) ess l->ess.flatten=l.map (Value.int .i64)
 | [],[],_=>rfl
 | es::ess,a::l,h=>by
  obtain⟨b,c⟩:=h;rw[bbc,ew b,abH c];rfl
 | [],_::_,h=>h.elim
 | _::_,[],h=>h.elim
def ZY{w:World}:∀ {l:List Int},(∀ a∈l,gg a)->dX (λ es a=>bN.bv w es a) (l.map λ a=> [Value.int .i64 a]) l
 | [],_=>trivial
 | a::l,h=>⟨⟨rfl,h a baZ⟩,ZY λ b c=>h b (bav _ c)⟩
end Go.Proofs.YtooonebcoaleiaaGreat
namespace Go.Proofs.YtooonebcoaleiaaGreat.kO
open Tryz
open Go.Proofs.YtooonebcoaleiaaGreat.fg
def step(n:BitVec 32):BitVec 32:=n >>> 1 ^^^ (3988292384#32 &&& -(n &&& 1#32))
def steps:Nat->BitVec 32->BitVec 32
 | 0,n=>n
 | k+1,n=>steps k (step n)
def take(n:BitVec 32)(b:UInt8):BitVec 32:=steps 8 (n ^^^ b.toBitVec.setWidth 32)
def fold(n:BitVec 32)(l:List UInt8):BitVec 32:=l.foldl take n
def more(n:BitVec 32)(l:List UInt8):BitVec 32:= ~~~(fold (~~~n) l)
def of(l:List UInt8):BitVec 32:=more 0#32 l

def aED(n:BitVec 32)(l m:List UInt8):fold n (l++m)=fold (fold n l) m:=by
 unfold fold;rw[bbZ]
def aEE(n:BitVec 32)(l:List UInt8)(b:UInt8):fold n (l++ [b])=take (fold n l) b:=by
 rw[aED];rfl

def afP(m:BitVec 32):bits BinOp.xor IntKind.u32 (U m / 2) (bits BinOp.and IntKind.u32 3988292384 (-bits BinOp.and IntKind.u32 (U m) 1 % 4294967296))=U (step m):=by
 refine UI (T3 _ _ _) (T2 _ _ _) ?_;have a:=aq2 (n:=32) (U m) 1 (Gi m) (by have:=aye m;omega);rw[aeU,aqZ,aLS,aLV,aqZ,zf];rw[show(U m / 2:Int)=U m / 2 ^ 1 by rfl,a,zf];rfl
def aI2(x y:Int)(a:0<=y)(b:y<256):bits BinOp.xor IntKind.u32 x y=U (BitVec.ofInt 32 x ^^^ (BitVec.ofInt 8 y).setWidth 32):=by
 refine UI (T3 _ _ _) (T2 _ _ _) ?_;rw[aeU];obtain⟨m,rfl⟩:=bcr a;congr 1;rw[bbk,bbk];apply bfm;simp only[bbL,BitVec.toNat_setWidth];omega
end Go.Proofs.YtooonebcoaleiaaGreat.kO
namespace Go.Proofs.YtooonebcoaleiaaGreat.kO
open Tryz
open Go.RowKit Go.Proofs.YtooonebcoaleiaaGreat.fg

def ar6{a b:Int}(h:a=b):Ending.returned (.int .u32 a)=.returned (.int .u32 b):=by rw[h]

theorem aPD(m:BitVec 32)(x y:Int)(aN:0<=x)(aa:x<=4294967295)(ab:0<=y)(ay:y<=255)(hm:m=BitVec.ofInt 32 x ^^^ (BitVec.ofInt 8 y).setWidth 32)(w:World):
  Calls prog 148 #[.int .u32 x,.int .u8 y] w λe w'=>e=.returned (.int .u32 (U (steps 8 m)))/\w=w':=by
 have oD:=bag (aI2 x y ab GE);rw[<-hm]at oD;clear hm;go_enter func148,ntmps148;go_wp2
 go_loop [0,9] (λx i=>∃(k:Nat) (q:BitVec 32),k<=8/\i=.int .i64 k/\x=.int .u32 (U q)/\Hid (steps (8-k) q=steps 8 m)) (λ_ i=>8-(intOf i).toNat)
 case atStart=>exact⟨0,m,GE,rfl,by rw[oD.out],rfl⟩
 case round =>
  obtain⟨k,q,au,rfl,rfl,I⟩:=hrel;by_cases bW:k<8
  .go_wp2
   go_round
   case rel =>
    refine⟨k+1,step q,GE,by go_num,by rw[afP],?_⟩;have h:=I.out;rw[show 8-k=(8-(k+1))+1 by omega]at h;exact h
   case measure=>simp[intOf];omega
  .have anf:k=8:=GE
   have h:=I.out;rw[anf]at h;clear I anf;have c9:=bag h;clear h;go_wp2
   go_ret;exact⟨ar6 (by rw[<-c9.out];rfl),Z⟩
def aPC(n:BitVec 32)(b:UInt8)(x y:Int)(c:x=U n)(a:y=(b.toNat:Int))(w:World):
  Calls prog 148 #[.int .u32 x,.int .u8 y] w λe w'=>e=.returned (.int .u32 (U (take n b)))/\w=w':=by
 subst c a;have d:=b.toNat_lt;refine aPD _ _ _ (Gi _) (ayd _) GE GE ?_ w;rw[zf];congr 2;rw[bbk];exact(bcX 8 b.toBitVec).trans (bcW _) |>.symm

def aqP(x:Int):bits BinOp.xor IntKind.u32 IntKind.u32.max x=U (~~~(BitVec.ofInt 32 x)):=by
 refine UI (T3 _ _ _) (T2 _ _ _) ?_;rw[aeU];exact BitVec.allOnes_xor

def aPI(s:ByteArray)(k:Nat)(h:k<s.size):s.data.toList.take (k+1)=s.data.toList.take k++ [s[k]]:=by
 rw[baI (by simpa using h)];rfl
theorem aeO(x:Int)(s:ByteArray)(aN:0<=x)(aa:x<=4294967295)(hs:s.size<=9223372036854775807)(w:World):
  Calls prog 121 #[.int .u32 x,.string s] w λe w'=>e=.returned (.int .u32 (U (more (BitVec.ofInt 32 x) s.data.toList)))/\w=w':=by
 obtain⟨n,mZ⟩:∃ n,Hid (n=BitVec.ofInt 32 x):=⟨_,rfl⟩;have gx:=bag (aqP x);rw[<-mZ.out]at gx;rw[<-mZ.out];clear aN aa;go_enter func121,ntmps121;go_wp2
 go_loop [0,10] (λx i=>∃ k:Nat,k<=s.size/\i=.int .i64 k/\x=.int .u32 (U (fold (~~~n) (s.data.toList.take k)))) (λ_ i=>s.size-(intOf i).toNat)
 case atStart=>exact⟨0,ba1 _,rfl,by rw[gx.out];rfl⟩
 case round =>
  obtain⟨k,au,rfl,rfl⟩:=hrel;by_cases bW:k<s.size
  .go_wp2_with (go_at_call 148;refine(aPC _ s[k] _ _ rfl rfl _).mono ?_;rintro e w' ⟨rfl,rfl⟩)
   go_round
   case rel =>
    refine⟨k+1,GE,by go_num,?_⟩;rw[aPI s k bW,aEE]
   case measure=>simp[intOf];omega
  .go_wp2
   go_ret;have aG6:k=s.size:=GE
   exact⟨ar6 (by rw[aqP,zf,aG6,baE Kx];rfl),Z⟩
def aeS(s:ByteArray)(hs:s.size<=9223372036854775807)(w:World):
  Calls prog 92 #[.string s] w λe w'=>e=.returned (.int .u32 (U (of s.data.toList)))/\w=w':=by
 go_enter func92,ntmps92;go_wp2_with (go_at_call 121;refine(aeO _ s GP GP hs _).mono ?_;rintro e w' ⟨rfl,rfl⟩)
 go_ret;exact⟨Z,Z⟩

end Go.Proofs.YtooonebcoaleiaaGreat.kO
namespace Go.Proofs.YtooonebcoaleiaaGreat.kO
open Tryz
open Go.RowKit Go.Proofs.YtooonebcoaleiaaGreat.fg
def ES(n:BitVec 32):List UInt8:=[UInt8.ofNat n.toNat,UInt8.ofNat (n.toNat / 256),UInt8.ofNat (n.toNat / 65536),UInt8.ofNat (n.toNat / 16777216)]
def zj(s:ByteArray):ByteArray:=s++⟨(ES (of s.data.toList)).toArray⟩
def ast(s:ByteArray):(zj s).data.toList=s.data.toList++ES (of s.data.toList):=by
 unfold zj;rw[ByteArray.data_append,bee]
def RL(s:ByteArray):(zj s).size=s.size+4:=by
 have h:=bbh List.length (ast s);rw[bam]at h;simp only[bcQ]at h;exact h

theorem aAJ(n:BitVec 32)(u:World):(convert 160 9 (.slice (some ⟨u.heap.size,0,none⟩) 4 4)).run prog (u.alloc (.cells #[.int .u8 (U n % 256),.int .u8 (U n / 256 % 256),.int .u8 (U n / 65536 % 256),.int .u8 (U n / 16777216 % 256)] 5))=
  .ok (.string ⟨(ES n).toArray⟩) (u.alloc (.cells #[.int .u8 (U n % 256),.int .u8 (U n / 256 % 256),.int .u8 (U n / 65536 % 256),.int .u8 (U n / 16777216 % 256)] 5)):=by
 refine bdb (P:=prog) _ 160 9 5 ⟨u.heap.size,0,none⟩ 4 (ES n) underlying160 underlying5 underlying9 ?_;intro j b;rw[aij];have c:j<4:=b;have a:U n=(n.toNat:Int):=rfl;rw[a]
 match j,c with
 | 0,_=>simp[ES,bcF]
 | 1,_=>simp[ES,bcF]
 | 2,_=>simp[ES,bcF]
 | 3,_=>simp[ES,bcF]

def afA(s:ByteArray)(hs:s.size<=9223372036854775800)(w:World):
  Calls prog 62 #[.string s] w λe w'=>e=.returned (.string (zj s))/\Below w.heap.size w w':=by
 have hcv:=aAJ (of s.data.toList);have az:(ES (of s.data.toList)).length<=4:=bao _;go_enter func62,ntmps62;go_wp2_with (go_at_call 92;refine(aeS _ GE _).mono ?_;rintro e w' ⟨rfl,rfl⟩)
 go_ret;exact⟨Z,(baL _ _).alloc (bao _) _⟩
def oo(s:ByteArray):ByteArray×Int :=
 if s.size<4 then(⟨#[]⟩,3)else if zj (s.extract 0 (s.size-4))=s then(s.extract 0 (s.size-4),0)else(⟨#[]⟩,5)

def afo{a b:ByteArray×Int}(h:b=a):Ending.returned (.tuple #[.string a.1,.int .i64 a.2])=.returned (.tuple #[.string b.1,.int .i64 b.2]):=by rw[h]

theorem aLY(s:ByteArray)(hs:s.size<=9223372036854775800)(w:World):
  Calls prog 67 #[.string s] w λe w'=>e=.returned (.tuple #[.string (oo s).1,.int .i64 (oo s).2])/\Below w.heap.size w w':=by
 by_cases ba:s.size<4
 .have c9:=bag (show oo s=(⟨#[]⟩,3) by unfold oo;rw[bap ba]);go_enter func67,ntmps67;go_wp2_with fail
  go_ret2
  exact⟨afo c9.out,baL _ _⟩
 .have hm:((s.size:Int)-4)=((s.size-4:Nat):Int):=GE
  have b1:(s.extract 0 (s.size-4)).size<=9223372036854775800:=by rw[ByteArray.size_extract];omega
  obtain⟨m,mZ⟩:∃ m,Hid (m=s.size-4):=⟨_,rfl⟩;rw[<-mZ.out]at hm b1;have aHt:m+4<=s.size:=by have:=mZ.out;omega
  have aXE:s.size<=m+4:=by have:=mZ.out;omega
  by_cases b2:zj (s.extract 0 m)=s
  .have c9:=bag (show oo s=(s.extract 0 m,0) by unfold oo;rw[<-mZ.out,ban ba,bap b2]);have aFk:=aiY b2;have BU:=bag b2;clear b2;go_enter func67,ntmps67;go_wp2_with (go_at_call 62;refine(afA _ b1 _).mono ?_;rintro e a8 ⟨rfl,ae⟩)
   go_ret2
   exact⟨afo c9.out,by assumption⟩
  .have c9:=bag (show oo s=(⟨#[]⟩,5) by unfold oo;rw[<-mZ.out,ban ba,ban b2]);have aFk:=aiW b2;clear b2;go_enter func67,ntmps67;go_wp2_with (go_at_call 62;refine(afA _ b1 _).mono ?_;rintro e a8 ⟨rfl,ae⟩)
   go_ret2
   exact⟨afo c9.out,by assumption⟩

def aL0(s:ByteArray):oo (zj s)=(s,0):=by
 have a:(zj s).extract 0 ((zj s).size-4)=s:=by
  apply aan;rw[bdX,ast,RL,bc8];have e:s.size+4-4-0=s.data.toList.length:=Kx
  rw[e,bdx]
 have b:=RL s;unfold oo;rw[ban GE,a,bap rfl]
def aq8(s:ByteArray):(oo s).2=0/\zj (oo s).1=s\/((oo s).2=3\/(oo s).2=5)/\(oo s).1=⟨#[]⟩:=by
 unfold oo;split
 .exact .inr ⟨.inl Z,Z⟩
 .split
  .rename_i h;exact .inl ⟨Z,h⟩
  .exact .inr ⟨.inr Z,Z⟩
end Go.Proofs.YtooonebcoaleiaaGreat.kO
namespace Go.Proofs.YtooonebcoaleiaaGreat
open Tryz
theorem aAA(A:Option Addr)(h c n:Nat)(w:World)(t:1<=n):
  Calls prog 69 #[.slice A h c,J (n:Int)] w (λ e w'=>∃ a d,e=.returned (.func (.func 100) #[] #[.pointer (bd a),.pointer (bd d)])/\aO w' a [.slice A h c] 22 (0,0)/\aO w' d [J (n:Int)] 3 (0,0)/\w.heap.size<=a/\a<d/\Ext w w'):=by
 refine bT (n:=9) func69 Z Z Z ?_;refine cZ Z Z λ p i j o b=>?_;have s:=b.lt;refine gz Z Z λ q k g r f=>?_;have l:=Φ j g;refine aG Z<|av<|ar<|a1 Z f aH Z<|cF Z Z<|ax<|?_;have m:(decide ((n:Int)<1))=false:=by rw[baT];omega
 refine ef (by rw[<-m];rfl)<|bf<|ar<|κ (A3 Z Z)<|bc Z<|b3 Z Z<|?_;have b:=b.O g;exact⟨i,k,Z,b,f,GE,GE,l⟩
theorem aAC(q n r c g i:Nat)(A:Option Addr)(v:World)(M:1<=n)(aa:r=q*n)(S:r<=c)(uE:c<=9223372036854775807)(m:Nat)(x:aO v g [.slice A r c] 22 (0,0))(y:aO v i [J (n:Int)] 3 (0,0)):
  SeqStopsK (l0 none) m prog 100 #[.pointer (bd g),.pointer (bd i)] (λ k:Fin q=>#[.slice (fX A (k.1*n+n) (k.1*n) 1) n n]) (DO g i) (λ xs=>xs=List.finRange q) (λ _=>True) q v:=by
 intro l p T W w F U C E;have b:=x.Wb (w.block g x.lt);have d:=y.Wb (w.block i y.lt);have f:IA W.heap.size p [] W:=⟨F,E⟩;refine Rd.aAg (n:=31) func100 Z Z Z ?_;refine Rd.av<|Rd.rg<|va Z<|nl<|Rd.a7<|Rd.bp<|?_;refine Rd.di (λ L K s=>∃ k:Nat,K=[(0,.func (.yield l) #[] #[]),(1,.pointer (bd g)),(2,.pointer (bd i)),(4,J (((k*n:Nat):Int)))]/\L=q-k/\True/\aO s g [.slice A r c] 22 (0,0)/\aO s i [J (n:Int)] 3 (0,0)/\IA W.heap.size p ((List.finRange q).take k) s/\(k<=q)) _ _ ⟨0,Z,Z,trivial,b,d,(f:IA W.heap.size p [] _),GE⟩ (c' Z Z Z) ?_;rintro R Q X ⟨k,rfl,rfl,Y,b,d,f,H⟩;refine Rd.av<|Rd.av<|Rd.rg<|vm Z<|a1 Z b et Z<|κ (bY underlying22 Z)<|cF Z Z<|nl<|Rd.a7<|?_;refine Rd.c7 Z (λ N=>?_) (λ N=>?_)
 .have j:k<q:=Nat.lt_of_mul_lt_mul_right (a:=n) GE;have V:k*n+n<=q*n:=by rw[<-bb5];exact ba6 _ j
  refine Rd.dP<|Rd.a7<|Rd.av<|Rd.bp<|Rd.av<|?_;refine Rd.rd [(0,0),(1,0)] [0,1,2,3,4,5,6] GT GT ?_;refine cr Z Z d aH Z<|cr Z Z b et Z<|bt Z Z<|aA Z (λ _=>aOv (k*n) underlying22 cO Z Z Z GE)<|aA Z (λ _=>bY underlying22 Z)<|aA Z (λ _=>qh Z Z)<|aA Z (λ _=>fh Z)<|fn λ zt u=>?_;refine Rd.a7<|Rd.av<|re.rg<|re.i' (fW Z) Z<|?_;have b:=b.O u;refine re.i' (aq Z (b.one et Z)) Z<|re.i' (fW Z) Z<|re.i' (fW Z) Z<|re.i' (fW Z) Z<|re.i' (bad Z Z dK) Z<|re.i' (fW Z) Z<|re.i' (fW Z) Z<|re.i' (bad Z Z dK) Z<|re.i' (aOu (k*n) (k*n+n) n underlying22 cO Z Z Z Z Z GE GE GE GE GE) Z<|?_;have d:=d.O u;have f:=f.O u;refine re.aup Z Z Z (aRZ (C _ (⟨k,j⟩:Fin q) _ f.d9 (by rw[baf,bfp];omega)) ?_);rintro e z O;obtain⟨P,rfl,o,G⟩:=aR0 O;refine⟨_,Z,?_⟩
  replace o:P=true->IA W.heap.size p ((List.finRange q).take k++ [⟨k,j⟩]) z/\DO g i _ z:=λ h=>⟨⟨f.ZX,(o h).1⟩,(o h).2⟩
  refine re.i' (dj Z) Z<|re.nl<|Rd.a7<|?_;refine Rd.dB Z (λ t=>?_) (λ t=>?_)
  .refine Rd.rt<|dO<|Rd.bR<|k1<|dO<|cJ .nil<|?_;exact⟨⟨_,Z⟩,.inr ⟨_,trivial,G (by simpa using t)⟩⟩
  .obtain⟨D,B⟩:=o (by simpa using t);have b:=b.Wb B.1;have d:=d.Wb B.2;refine Rd.dP<|Rd.bK<|Rd.a7<|Rd.rg<|vm Z<|a1 Z d aH Z<|fb Z Z<|va Z<|nl<|?_;exact Rd.oR _ _ ⟨k+1,Z,Z,trivial,b,d,(by rw[<-aEo j];exact D),GE⟩ GE (.cons Z (.cons Z (.cons Z (.cons (Hu Z (by rw[bb5];omega)) .nil))))
 .have j:k=q:=Nat.le_antisymm H (Nat.le_of_mul_le_mul_right (c:=n) GE M);refine Rd.cI<|Rd.cH<|cU<|Rd.cG<|Rd.ne<|cJ .nil<|?_;exact⟨⟨_,Z⟩,.inl ⟨_,Z,by have:=f.d9;rwa [j,baE (by rw[bfp];omega)]at this⟩⟩
section
variable{by_ c:Nat}{A:Option Addr}{l:List UInt8}{p q:ByteArray}
def HK:τ UInt8:=τ.flat 1 (λ b=> [.int .u8 (b.toNat:Int)]) (λ _=>True) (λ _ u=>∃ n:Int,u=.int .u8 n) (λ _=>rfl) (by intro a u c;simp at c;subst c;rfl) (by
 intro a j u c;cases j with
 | zero=>simp at c;exact⟨_,c.symm⟩
 | succ j=>simp at c)
def amM{w:World}{cs:List Value}{a:UInt8}(h:HK.bv w cs a):cs=[.int .u8 (a.toNat:Int)]:=bcs (show cs=[.int .u8 (a.toNat:Int)]/\True from h)
def aI5:(prog.info? 5).map (λ i=>(i.zero,i.size,i.bytes))=some (some (.int .u8 0),1,1):=GT
def aND:∀(j:Nat) u,(Value.int .u8 0).cells[j]? =some u->HK.raw j u:=by
 intro j u a;have a:(#[(.int .u8 0:Value)]:Array Value)[j]? =some u:=a
 match j,a with
 | 0,a=>exact⟨0,(bae a).symm⟩
 | j+1,a=>simp at a
def aNS{w:World}(h:HK.aF by_ w A c l)(f:0<l.length):∃ b o,A=some ⟨b,o,none⟩/\∀(i:Nat) (a:UInt8),l[i]? =some a->w.cell? ⟨b,o+i,none⟩=some (.int .u8 (a.toNat:Int)):=by
 obtain⟨b,o,e,j⟩:=h.d9 f;refine⟨b,o,e,λ i a g=>?_⟩;obtain⟨es,⟨rfl,_⟩,d⟩:=j i a g;have:=d 0 _ rfl;simpa[HK,τ.flat]using this
def hY(l:List UInt8):ByteArray:=⟨l.toArray⟩
section
variable{P:Program}{n:Nat}{E df:List (Nat×Value)}{w:World}{d:Option Nat}{ty:TypeId}{pos:String}{af:Array Edge}{g:Option (Nat×Bool)}{x y z u:Operand}{t t2:TypeId}
theorem aAP{e:TypeId}(s:P.underlying t=some (.slice e))(q:P.underlying e=some (.int .u8))(m:P.underlying t2=some .string)(h:HK.aF by_ w A c l)(B:ev E x=some (.slice A l.length c)):
  dc P E ⟨d,.convert t t2 x,ty,pos,af,g⟩ w (.string (hY l)) w:=λ n a y=>by
 have z:(convert t t2 (.slice A l.length c)).run P w=.ok (.string (hY l)) w:=by
  cases A with
  | none =>
   have k:c=0:=h.2.2.2.1 rfl;have i:l=[]:=baM (by have:=h.1;omega);subst i;subst k;show(convert t t2 (.slice none 0 0)).run P w=_;rw[run_convert_bytes_string w t t2 e none 0 0 s q m];simp[Conv.bytesToString];rfl
  | some p =>
   cases i:l with
   | nil =>
    have:∀ j (f:j<([]:List UInt8).length),w.cell? (p.add j)=some (.int .u8 (([]:List UInt8)[j].toNat:Int)):=λ j f=>nomatch f;exact bdb w t t2 e p c [] s q m this
   | cons b r =>
    rw[<-i];obtain⟨b,o,u,k⟩:=aNS h (by rw[i];simp);injection u with u
    subst u;exact bdb w t t2 e _ c l s q m λ j f=>by
     have:=k j _ (bac f);have e:(⟨b,o,none⟩:Addr).add j=⟨b,o+j,none⟩:=by
      unfold Addr.add;by_cases v:j=0
      .subst v;simp
      .simp[v]
     rw[e];exact this
 simp only[execOp,y.ev B,bar,z,bal,bat]
def XG(p q:ByteArray):(p == q)=decide (p=q):=by
 rw[bcz,baF];constructor
 .intro h;obtain⟨a⟩:=p;obtain⟨b⟩:=q;have:a=b:=by simpa using(show(a == b)=true from h)
  rw[this]
 .rintro rfl;obtain⟨a⟩:=p;show(a == a)=true;simp
theorem azd(h:P.underlying t=some .string)(f:ev E x=some (.string p))(c:ev E y=some (.string q)):dc P E ⟨d,.binOp .eql t x y t2,ty,pos,af,g⟩ w (.bool (decide (p=q))) w:=λ n a b=>by
 have:(eqGuard .eql t x y (.string p) (.string q)).run P w=.ok () w:=by cases x<;>cases y<;>rfl
 have e:(binOp .eql t (.string p) (.string q)).run P w=.ok (.bool (decide (p=q))) w:=by
  simp only[binOp,Op.stringOp,bat];simp[bne,XG];rw[<-beq_toListBytes,XG]
 simp only[execOp,b.ev f,b.ev c,bar,this,e,bal,bat]
theorem azc(h:P.underlying t=some .string)(f:ev E x=some (.string p))(c:ev E y=some (.string q)):dc P E ⟨d,.binOp .neq t x y t2,ty,pos,af,g⟩ w (.bool (!decide (p=q))) w:=λ n a b=>by
 have:(eqGuard .neq t x y (.string p) (.string q)).run P w=.ok () w:=by cases x<;>cases y<;>rfl
 have e:(binOp .neq t (.string p) (.string q)).run P w=.ok (.bool (!decide (p=q))) w:=by
  simp only[binOp,Op.stringOp,bat];simp[bne,XG];rw[<-beq_toListBytes,XG]
 simp only[execOp,b.ev f,b.ev c,bar,this,e,bal,bat]
def aKo{s:ByteArray}(a:P.underlying t=some .string)(b:ev E x=some (.string s))(c:(s.size:Int)<=9223372036854775807):dc P E ⟨d,.call {callee:=.builtin .len,args:=#[x],argTypes:=#[t]},ty,pos,af,g⟩ w (.int .i64 (s.size:Int)) w :=
 bi (vs:=[.string s]) (by simp only[hV,b]) λ cs=>by
  have:=run_len_string (P:=P) w t ty s a;simp only[builtin,bar,this,bal,bat];rfl
end
end
def aO3(p:Int):UInt8:=([46,35,116,111]:List UInt8).getD p.toNat 0
def aOc(f:aE)(k j:Nat):List UInt8:=(((f.G.drop (k*f.O.toNat)).take (k*f.O.toNat+f.O.toNat-k*f.O.toNat)).take j).map aO3
def txt(f:aE)(a:List (Fin f.high.toNat)):List UInt8:=a.flatMap λ k=>aOc f k.1 f.O.toNat++ [10]
theorem aAB(A:Option Addr)(d c:Nat)(i:Int)(w:World)(f:1<=i):Calls prog 69 #[.slice A d c,.int .i64 i] w (λ e w'=>∃ a b,e=.returned (.func (.func 100) #[] #[.pointer (some ⟨a,0,none⟩),.pointer (some ⟨b,0,none⟩)])/\aO w' a [.slice A d c] 22 (0,0)/\aO w' b [.int .i64 (i.toNat:Int)] 3 (0,0)/\w.heap.size<=a/\a<b/\Ext w w'):=by
 have e:i=(i.toNat:Int):=GE
 have:=aAA A d c i.toNat w GE;rw[<-e]at this;rw[<-e];exact this
def aWw(f:aE):ByteArray:=if f.br≠0 then hY []else hY (txt f (List.finRange f.high.toNat))
section
variable{l:List Int}{k c:Nat}{w:World}{A:Option Addr}
def axw:dU prog bN 22 3 8:=dU.O (z:=J 0) (k:=1) underlying22 y5 rfl rfl GP (λ j u h=>CZ j u h)
def axv:dU prog aS.ce 76 43 48:=dU.O (z:=aS.zero) (k:=6) underlying76 aS.G rfl rfl GP aS.M
def nums(l:List aS):List Int:=l.flatMap λ o=> [o.by_,o.O,o.H,o.an.x,o.an.y,o.Y]
def WY:∀ l:List aS,(nums l).length=6*l.length
 | []=>rfl
 | o::l=>by unfold nums;rw[bb4,bam,baj];have:=WY l;unfold nums at this;rw[this];simp;omega
def aLH{l:List aS}(h:k<l.length):nums (l.take (k+1))=nums (l.take k)++ [(l.getD k default).by_,(l.getD k default).O,(l.getD k default).H,(l.getD k default).an.x,(l.getD k default).an.y,(l.getD k default).Y]:=by
 unfold nums;rw[Fa (d:=default) h,bbH];simp
def lq(l:List aS):ByteArray:=if iN l≠0 then hY []else kO.zj (Pack.strOf (Pack.tJ (nums l)))
def aue{l:List aS}(h:¬iN l=0):lq l=hY []:=by unfold lq;rw[bap h]
def Sh{l:List aS}(h:iN l=0):lq l=kO.zj (Pack.strOf (Pack.tJ (nums l))):=by unfold lq;rw[ban (by simpa using h)]
def Pack.arI(l:List Int):(Pack.tJ l).length<=10+10*l.length:=by
 unfold Pack.tJ;rw[bam];have:=(Pack.A' l.length).1;have:=Pack.V' l;omega
def aNH(h:bN.aF 8 w A c l):Rd w 1 A l.length (yE l):=by
 obtain⟨f,g,d,e,ess,b,a⟩:=h;rw[abH b]at a;exact a
def aIF(h:bN.aF 8 w A c l):vE l:=λ x a=>b7.1 (Kn h x a)
def aMY(l:List Int)(A:Option Addr)(c:Nat)(w:World)(a:l.length<=1000)(h:bN.aF 8 w A c l):Calls prog 61 #[.slice A l.length c] w λ e w'=>e=.returned (.tuple #[.string (Pack.strOf (Pack.tJ l)),J 0])/\Ext w w' :=
 Pack.arH A l.length c l rfl a (aIF h) w (aNH h)
def alU{s:List UInt8}{a:List Int}{j:Int}(h:Pack.Dw s a j):a.length<=1000:=by
 obtain⟨_,b,c⟩:=h;by_cases e:j=0
 .exact(b e).2
 .rw[(c e).1];exact ba1 _
theorem aMf{B n:Nat}(h:Own w B 3 1 S3 (.slice A n c) l.length (yE l))(o:l.length<=1000)(d:vE l):n=l.length/\bN.aM 3 8 w B (τ.ai A) A c l:=by
 have j:n=l.length:=by
  rcases h.2 with⟨f,i⟩|⟨g,p,cur,k,_⟩
  .injection f with _ e _;rw[e,i]
  .injection k
 subst j;refine⟨Z,τ.aM.E5 (ess:=l.map λ a=> [Value.int .i64 a]) ar4 (ZY λ a b=>b7.2 (d a b)) GE ?_⟩;have m:(l.map λ a=> [Value.int .i64 a]).flatten=l.map (Value.int .i64):=abH (w:=w) (ZY λ a b=>b7.2 (d a b));rw[m];exact h
def aE4(s:ByteArray)(j:s.size<=9223372036854775807)(w:World):Calls prog 68 #[.string s] w (λ e w'=>∃ a k A c,Pack.Dw s.data.toList a k/\e=.returned (.tuple #[.slice A a.length c,J k])/\bN.aM 3 8 w' w.heap.size (τ.ai A) A c a/\Ext w w'):=by
 refine(Pack.aE3 s j w).mono λ e w' i=>?_;obtain⟨a,k,A,n,c,b,d,f,h⟩:=i;obtain⟨rfl,g⟩:=aMf f (alU b) b.1;exact⟨a,k,A,c,b,d,g,h⟩
def aL1{s:ByteArray}(h:s.size<=140737488351232):(kO.oo s).1.size<=9223372036854775807:=by
 rcases kO.aq8 s with⟨_,a⟩|⟨_,a⟩
 .have:=bbh ByteArray.size a;rw[kO.RL]at this;omega
 .rw[a];decide
def gQ(l:List Int)(k:Nat):List Int:=(l.drop (k*6)).take (k*6+6-k*6)
def ajg(h:k*6+6<=l.length):(gQ l k).length=6:=by unfold gQ;rw[baf,bax];omega
def aAD(h:∀ a∈l,gg a)(k i:Nat):gg ((gQ l k).getD i 0):=by
 by_cases b:i<(gQ l k).length
 .exact h _ (bdj (bcK (gZ (d:=0) b)))
 .rw[baa,baX GE];exact b7.2 GP
def A7(n:List Int):aS:=⟨n.getD 0 0,n.getD 1 0,n.getD 2 0,⟨n.getD 3 0,n.getD 4 0⟩,n.getD 5 0⟩
def Np(a:List Int)(q:Nat):List aS:=(List.finRange q).map λ k=>A7 (gQ a k.1)
def Kf(a:List Int):List aS:=Np a (a.length / 6)
def Nn{a:List Int}{q:Nat}(h:a.length=q*6):Kf a=Np a q:=by unfold Kf;rw[show a.length / 6=q by omega]
def Gf(s:ByteArray)(m:List aS)(k:Int):Prop :=
 ((kO.oo s).2≠0/\m=[]/\k=(kO.oo s).2)\/((kO.oo s).2=0/\∃ a j,Pack.Dw (kO.oo s).1.data.toList a j/\((j≠0/\m=[]/\k=j)\/(j=0/\a.length % 6≠0/\m=[]/\k=4)\/
  (j=0/\a.length % 6=0/\((iN (Kf a)≠0/\m=[]/\k=iN (Kf a))\/(iN (Kf a)=0/\m=Kf a/\k=0)))))
theorem aMh(A:Option Addr)(c:Nat)(l:List aS)(w:World)(g:aS.ce.aF 48 w A c l):
  Calls prog 38 #[.slice A l.length c] w (λ e w'=>e=.returned (.tuple #[.string (lq l),J (iN l)])/\Ext w w'):=by
 have nS:=g.M;refine bT (n:=49) func38 Z Z Z ?_;refine ar<|va Z<|aG Z<|av<|aC Z<|cf abc Z (aeP _ _ l _ (g.be (Ext.U w))) λ ch t=>?_;refine aG Z<|aC Z<|cV Z Z<|ax<|?_;refine fr Z (λ i=>?_) (λ i=>?_)
 .refine aC Z<|va Z<|bc Z<|bR<|hE Z Z Z<|?_;exact⟨by rw[aue i];rfl,t⟩
 .obtain⟨aa,_⟩:=Rv (by simpa using i);refine bf<|ar<|aG Z<|av<|aC Z<|κ (bY underlying76 Z)<|vm Z<|ax<|bp<|?_;refine di (λ F E o=>∃ k:Nat,∃ j:Option Addr,∃ m:Nat,E=[(2,.string (hY [])),(3,J 0),(5,.slice j ((nums (l.take k)).length) m),(15,.slice A l.length c),(16,J (l.length:Int)),(17,J (k:Int))]/\F=l.length-k/\Ext w o/\bN.aM 3 8 o w.heap.size (τ.ai j) j m (nums (l.take k))/\(k<=l.length)) _ _ ⟨0,none,0,Z,Z,t,(τ.aM.nil _),GE⟩ (c' Z Z Z) ?_;rintro ag ae X ⟨k,j,m,rfl,rfl,h,b,au⟩;have:=h.size;have B:=b4 b.lt;have af:=WY (l.take k);have V:(l.take k).length=k:=by rw[baf];omega
  refine ar<|cF Z Z<|ax<|av<|?_;refine c7 Z (λ K=>?_) (λ K=>?_)
  .have f:=aS.C g _ (gZ (d:=default) (show k<l.length by omega));refine bf<|av<|bp<|ar<|κ (bD k underlying76 eu Z Z ((g.be h).Y (aL k)) Z GE)<|κ (aq Z (τ.aF.G yX ((g.be h).O (aL k)) (cg (l:=l) (u:=default) GE) iw eu))<|cy GL Z λ sM ke s U a=>?_;have M:=Φ h s;refine ck Z Z a Z eu Z Z λ nY x a=>?_;have G:=Ext.H M x bn;refine ax<|rg<|vm Z<|κ (aj ri Z)<|a1 Z a aH Z<|κ (aj lz Z)<|a1 Z a aH Z<|κ (aj vS Z)<|a1 Z a aH Z<|κ (aj xv Z)<|κ (aj fj Z)<|a1 Z a aH Z<|κ (aj xv Z)<|κ (aj fk Z)<|a1 Z a aH Z<|κ (aj yK Z)<|a1 Z a aH Z<|cT (e:=3) (cs:=[J ((l.getD k default).by_),J ((l.getD k default).O),J ((l.getD k default).H),J ((l.getD k default).an.x),J ((l.getD k default).an.y),J ((l.getD k default).Y)]) Z (λ _=>GT) Z λ mn W v ad S=>?_;have r:=Φ G v;have b:=((b.O s).H x (bV B)).O v;refine ap axw τ.O b (aO.M (R:=bN) (by_:=8) (k:=[(l.getD k default).by_,(l.getD k default).O,(l.getD k default).H,(l.getD k default).an.x,(l.getD k default).an.y,(l.getD k default).Y]) S [[J ((l.getD k default).by_)],[J ((l.getD k default).O)],[J ((l.getD k default).H)],[J ((l.getD k default).an.x)],[J ((l.getD k default).an.y)],[J ((l.getD k default).Y)]] Z (⟨⟨Z,(f.1)⟩,⟨⟨Z,(f.2.1)⟩,⟨⟨Z,(f.2.2.1)⟩,⟨⟨Z,(f.2.2.2.1)⟩,⟨⟨Z,(f.2.2.2.2.1)⟩,⟨⟨Z,(f.2.2.2.2.2)⟩,trivial⟩⟩⟩⟩⟩⟩) Kx Kx) Z Z (by simp only[baj,baq];omega) (by simp only[baj,baq];omega) r.size Z λ rI C D N z ab Y=>?_;have L:=Ext.H r N (λ q I=>(b.lt q I).1);refine va Z<|nl<|bK<|cW Z Z Z<|?_;have p:nums (l.take (k+1))=nums (l.take k)++ [(l.getD k default).by_,(l.getD k default).O,(l.getD k default).H,(l.getD k default).an.x,(l.getD k default).an.y,(l.getD k default).Y]:=aLH GE;exact oR _ _ ⟨k+1,C,D,Z,Z,L,(by rw[p];exact z),GE⟩ GE (.cons Z (.cons Z (.cons (by rw[p];rfl) (c' Z Z Z))))
  .refine cI<|cH<|cU<|cG<|a7<|aC Z<|cf akE Z (aMY (nums (l.take k)) _ _ _ GE b.bv) λ sN H=>?_;have O:=Φ h H;refine vm Z<|bL Z Z<|bL Z Z<|va Z<|aG Z<|av<|aC Z<|cV Z Z<|ax<|ef Z<|bf<|aC Z<|cf aCy Z (kO.afA _ (by rw[Pack.NC];have:=Pack.arI (nums (l.take k));omega) _) λ T y=>?_;have Q:=Φ O y;refine va Z<|bc Z<|hE Z Z Z<|?_;have P:k=l.length:=GE
   subst P;exact⟨by rw[Sh (by simpa using i),show iN l=0 by simpa using i,ba7];rfl,Q⟩
theorem aMb(s:ByteArray)(w:World)(V:s.size<=140737488351232):
  Calls prog 43 #[.string s] w (λ e w'=>∃ m k A c,Gf s m k/\e=.returned (.tuple #[.slice A m.length c,J k])/\aS.ce.aM 43 48 w' w.heap.size (τ.ai A) A c m/\Ext w w'):=by
 refine Rd.bT (m:=5) (n:=61) func43 Z Z Z ?_;refine Rd.av<|Rd.rg<|va Z<|va Z<|nl<|Rd.a7<|Rd.av<|Rd.rg<|vm Z<|cf aCz Z (kO.aLY s GE _) λ ch fL=>?_;have:=fL.size;refine vm Z<|bL Z Z<|bL Z Z<|va Z<|va Z<|nl<|Rd.a7<|Rd.av<|Rd.av<|Rd.rg<|vm Z<|cV Z Z<|nl<|Rd.a7<|?_;refine Rd.fr Z (λ G=>?_) (λ G=>?_)
 .refine Rd.av<|Rd.rg<|vm Z<|va Z<|va Z<|nl<|Rd.a7<|Rd.rt<|Rd.bR<|Rd.cJ (.tmp Z (.tmp Z .nil))<|?_;exact⟨[],_,none,0,.inl ⟨by simpa using G,rfl,rfl⟩,Z,τ.aM.nil _,fL⟩
 .refine Rd.dP<|Rd.a7<|Rd.av<|Rd.rg<|vm Z<|ca aCA Z Z ((aE4 ((kO.oo s).1) (aL1 GE) _).mono ?_);rintro e dr ⟨b,j,P,aj,H,rfl,d,c0⟩;refine cR ?_;have:=c0.size;have bo:=Φ fL c0;have XS:=b4 d.lt;have am:=alU H;refine vm Z<|bL Z Z<|bL Z Z<|va Z<|va Z<|nl<|Rd.a7<|Rd.av<|Rd.av<|Rd.rg<|vm Z<|cV Z Z<|nl<|Rd.a7<|?_;refine Rd.fr Z (λ O=>?_) (λ O=>?_)
  .refine Rd.av<|Rd.rg<|vm Z<|va Z<|va Z<|nl<|Rd.a7<|Rd.rt<|Rd.bR<|Rd.cJ (.tmp Z (.tmp Z .nil))<|?_;exact⟨[],_,none,0,.inr ⟨by simpa using G,b,j,H,.inl ⟨by simpa using O,rfl,rfl⟩⟩,Z,τ.aM.nil _,bo⟩
  .have aM:b.length<=1000:=am;refine Rd.dP<|Rd.a7<|Rd.av<|Rd.av<|Rd.rg<|vm Z<|κ (bY underlying22 Z)<|κ (Cc Z Z GE GE)<|cV Z Z<|nl<|Rd.a7<|?_;refine Rd.fr Z (λ ru=>?_) (λ ru=>?_)
   .refine Rd.av<|Rd.rg<|va Z<|va Z<|nl<|Rd.a7<|Rd.rt<|Rd.bR<|Rd.cJ (.tmp Z (.tmp Z .nil))<|?_;exact⟨[],_,none,0,.inr ⟨by simpa using G,b,j,H,.inr (.inl ⟨by simpa using O,GE,rfl,rfl⟩)⟩,Z,τ.aM.nil _,bo⟩
   .obtain⟨q,K⟩:∃ q,b.length=q*6:=⟨b.length / 6,GE⟩;refine Rd.dP<|Rd.a7<|Rd.av<|Rd.rg<|cy aCB Z λ Bm Z' q1 aC S=>?_;have jV:=Φ bo q1;have aD:=S.lt;refine nl<|Rd.a7<|Rd.av<|Rd.av<|Rd.rg<|vm Z<|ca aCC Z Z ((aAB _ _ _ 6 _ GE).mono ?_);rintro e wL ⟨eZ,ig,rfl,SS,SU,kW,EP,U⟩;refine cR ?_;have:=U.size;have jW:=Φ jV U;have lH:=SS.lt;have Ba:=SU.lt;refine nl<|Rd.a7<|Rd.bp<|?_;have S:=S.O U;have d:=d.O (Φ q1 U);refine Rd.U (enc:=(λ k:Fin q=> .slice (fX P (k.1*6+6) (k.1*6) 1) 6 6)) Z aCD (aAC q 6 b.length aj eZ ig P _ GE K d.bv.1 d.bv.2.1 _ SS SU) GE GE (Ext.U _) GP Z Z (λ F W=>∃ r:Option Addr,∃ t:Nat,aO W Z' [.slice r (((F.map λ k=>A7 (gQ b k.1))).length) t] 76 (0,0)/\aS.ce.aM 43 48 W wL.heap.size (τ.ai r) r t ((F.map λ k=>A7 (gQ b k.1)))/\bN.aM 3 8 W ch.heap.size (τ.ai P) P aj (b)/\Mod [Z'] wL W) (by rintro aB aG aI aF ⟨r,t,f,g,d,av⟩ T B;exact⟨r,t,f.H T (λ I=>(B _ I).2 _ _ _ f),g.H T (λ q I V=>by obtain⟨_,_,_,E⟩:=g.Uc q I;exact(B q V).2 _ _ _ E),d.H T (λ q I V=>by obtain⟨_,_,_,E⟩:=d.Uc q I;exact(B q V).2 _ _ _ E),av.Y T (λ q I=> .inr (B q I).1)⟩) ⟨none,0,S,τ.aM.nil _,d,Mod.U _ _⟩ ?_ ?_
    .intro aP F a ai ad aN;obtain⟨r,t,f,g,d,ag⟩:=ad;have af:BZ wL.heap.size ai ai:=BZ.U _ _;have:=ag.size;have jv:=dZ g.lt;have pL:=b4 d.lt;have hx:=a.2;have uD:=ajg (l:=b) (k:=a.1) GE;have z:=λ i=>aAD (Kn d.bv) a.1 i;have wh:((F.map λ k=>A7 (gQ b k.1))).length=F.length:=bbd _;refine Rd.bp<|?_;refine Rd.rd [(0,0),(3,0),(6,0),(9,0),(12,0),(15,0),(19,0),(21,2),(22,3),(23,3)] [0,1,2,3,4,5,6,7,8,9,10,11,12,13,14,15,16,17,18,19,20,21,22,23] GT GT ?_;refine cr Z Z f nb Z<|bt Z Z<|aA Z (λ _=>bD 0 underlying22 cO Z Z ((d.bv.K (a.1*6) (a.1*6+6) GE GE).Y (aL 0 (by first|(rw[baf,bax];omega)|omega))) Z GE)<|dE Z (λ _ x=>aq Z (τ.aF.H ew (((d.O x).bv.K (a.1*6) (a.1*6+6) GE GE).O (aL 0 (by first|(rw[baf,bax];omega)|omega))) (cg (l:=gQ b a.1) (u:=0) (by first|(rw[baf,bax];omega)|omega)) Z aH))<|bt Z Z<|aA Z (λ _=>bD 1 underlying22 cO Z Z ((d.bv.K (a.1*6) (a.1*6+6) GE GE).Y (aL 1 (by first|(rw[baf,bax];omega)|omega))) Z GE)<|dE Z (λ _ x=>aq Z (τ.aF.H ew (((d.O x).bv.K (a.1*6) (a.1*6+6) GE GE).O (aL 1 (by first|(rw[baf,bax];omega)|omega))) (cg (l:=gQ b a.1) (u:=0) (by first|(rw[baf,bax];omega)|omega)) Z aH))<|bt Z Z<|aA Z (λ _=>bD 2 underlying22 cO Z Z ((d.bv.K (a.1*6) (a.1*6+6) GE GE).Y (aL 2 (by first|(rw[baf,bax];omega)|omega))) Z GE)<|dE Z (λ _ x=>aq Z (τ.aF.H ew (((d.O x).bv.K (a.1*6) (a.1*6+6) GE GE).O (aL 2 (by first|(rw[baf,bax];omega)|omega))) (cg (l:=gQ b a.1) (u:=0) (by first|(rw[baf,bax];omega)|omega)) Z aH))<|bt Z Z<|aA Z (λ _=>bD 3 underlying22 cO Z Z ((d.bv.K (a.1*6) (a.1*6+6) GE GE).Y (aL 3 (by first|(rw[baf,bax];omega)|omega))) Z GE)<|dE Z (λ _ x=>aq Z (τ.aF.H ew (((d.O x).bv.K (a.1*6) (a.1*6+6) GE GE).O (aL 3 (by first|(rw[baf,bax];omega)|omega))) (cg (l:=gQ b a.1) (u:=0) (by first|(rw[baf,bax];omega)|omega)) Z aH))<|bt Z Z<|aA Z (λ _=>bD 4 underlying22 cO Z Z ((d.bv.K (a.1*6) (a.1*6+6) GE GE).Y (aL 4 (by first|(rw[baf,bax];omega)|omega))) Z GE)<|dE Z (λ _ x=>aq Z (τ.aF.H ew (((d.O x).bv.K (a.1*6) (a.1*6+6) GE GE).O (aL 4 (by first|(rw[baf,bax];omega)|omega))) (cg (l:=gQ b a.1) (u:=0) (by first|(rw[baf,bax];omega)|omega)) Z aH))<|p5 (v:=.agg #[J ((gQ b a.1).getD 3 0),J ((gQ b a.1).getD 4 0)]) Z Z (λ _=>kg Z GT) Z<|bt Z Z<|aA Z (λ _=>bD 5 underlying22 cO Z Z ((d.bv.K (a.1*6) (a.1*6+6) GE GE).Y (aL 5 (by first|(rw[baf,bax];omega)|omega))) Z GE)<|dE Z (λ _ x=>aq Z (τ.aF.H ew (((d.O x).bv.K (a.1*6) (a.1*6+6) GE GE).O (aL 5 (by first|(rw[baf,bax];omega)|omega))) (cg (l:=gQ b a.1) (u:=0) (by first|(rw[baf,bax];omega)|omega)) Z aH))<|p5 (v:=.agg #[J ((gQ b a.1).getD 0 0),J ((gQ b a.1).getD 1 0),J ((gQ b a.1).getD 2 0),J ((gQ b a.1).getD 3 0),J ((gQ b a.1).getD 4 0),J ((gQ b a.1).getD 5 0)]) Z Z (λ _=>kg Z GT) Z<|fO Z Z Z λ rI y Q L=>cT (e:=43) (cs:=[J ((gQ b a.1).getD 0 0),J ((gQ b a.1).getD 1 0),J ((gQ b a.1).getD 2 0),J ((gQ b a.1).getD 3 0),J ((gQ b a.1).getD 4 0),J ((gQ b a.1).getD 5 0)]) Z (λ _=>GT) Z λ pM Gr C Q9 o6=>L _ _ ⟨Φ y C,?_⟩;have:=y.size;have ic:=ag.trans (Mod.O y);have iE:=ic.trans (Mod.O C);have aE:=o6.lt;have g:=g.O (Φ y C);have an:=g;refine en Z Z Z λ sN p Q L=>ap axv τ.O (g.O p) ((aO.G (R:=aS.ce) (by_:=48) (q:=(⟨(gQ b a.1).getD 0 0,(gQ b a.1).getD 1 0,(gQ b a.1).getD 2 0,⟨(gQ b a.1).getD 3 0,(gQ b a.1).getD 4 0⟩,(gQ b a.1).getD 5 0⟩:aS)) o6 ⟨Z,⟨z 0,z 1,z 2,z 3,z 4,z 5⟩⟩ GP).be p) Z Z (by simp only[baj,baq];omega) (by simp only[baj,baq];omega) (by have:=p.size;omega) Z λ H4 ah ak X Gb al ax=>L _ _ ?_;have:=p.size;have ku:=iE.trans (Mod.O p);have qw:=ku.Y X (λ q I=> .inr ((λ q I=>bay GE ((g.O p).lt q I).1) q I));have f:=f.O (Φ y (Φ C p));have oH:∀ q∈τ.ai r,q=Z'->False:=λ q I ae=>by (have:=jv q I;omega)
     have f:=f.H X (λ I=>oH _ I rfl);have ao:=f;refine en Z Z Z λ NO M Q L=>st (new:=[.slice ah (((F.map λ k=>A7 (gQ b k.1))++ [(⟨(gQ b a.1).getD 0 0,(gQ b a.1).getD 1 0,(gQ b a.1).getD 2 0,⟨(gQ b a.1).getD 3 0,(gQ b a.1).getD 4 0⟩,(gQ b a.1).getD 5 0⟩:aS)]).length) ak]) Z Z (f.O M) Z Ao Z Z Z λ qq mh f=>L _ _ ?_;have yh:=qw.trans (Mod.O M);have hQ:=yh.Y mh (λ q I=> .inl I);refine fn λ NR Y=>?_;have vw:=hQ.trans (Mod.O Y);refine Rd.bK<|?_;have eF:=sK (mh) Y;have af:=(((af.O (Φ y (Φ C p))).H X (λ q I=>(an.O p).Uc q I)).O M).H eF (λ q I=>by rw[bah.1 I];exact⟨_,_,_,(ao.O M)⟩);have f:=f.O Y;have jP:=sK (oN M mh) Y;have Gb:=Gb.H jP (bM λ q I ae=>baC (al q I) (λ Hs=>by (exact oH q Hs ae)) (λ Hs=>GE));have d:=((d.O (Φ y (Φ C p))).H X (λ q I h=>by exfalso;(have:=jv q h;(have:=XS q I;omega)))).H jP (bV XS);exact λ _ _=>⟨af,Mod.aJp ag vw ⟨GE,GE⟩ aJ aJ,⟨ah,ak,(by rw[baJ];exact f),(by rw[baJ];exact Gb),d,vw⟩⟩
    .intro D aw az aK B ad o;obtain⟨r,t,f,g,d,ar⟩:=ad;have Mn:aw=List.finRange q:=B;subst Mn;have au:=Ext.H jW ar (λ q I=>by rw[bah.1 I];omega);refine iH.bK<|iH.a7<|iH.av<|iH.av<|iH.rg<|iH.i' (aq Z (f.one nb Z)) Z<|iH.ca abc Z Z ((aeP _ _ (Np b q) _ g.bv).mono ?_);rintro e X9 ⟨rfl,N⟩;refine cR ?_;have yj:=Φ au N;refine iH.i' (fh Z) Z<|iH.nl<|iH.a7<|iH.av<|iH.rg<|iH.i' (fW Z) Z<|iH.i' (bne Z Z) Z<|iH.nl<|iH.a7<|?_;refine iH.fr Z (λ Qa=>?_) (λ Qa=>?_)
     .refine iH.av<|iH.rg<|iH.i' (fW Z) Z<|iH.i' (fh Z) Z<|iH.i' (fh Z) Z<|iH.nl<|iH.a7<|iH.rt<|iH.bR<|?_;have o:=o.O N;refine iH.cJ o (.tmp Z (.tmp Z .nil))<|?_;exact⟨[],_,none,0,.inr ⟨by simpa using G,b,j,H,.inr (.inr ⟨by simpa using O,GE,.inl ⟨by rw[Nn K];simpa using Qa,rfl,by rw[Nn K]⟩⟩)⟩,Z,τ.aM.nil _,Ext.H yj o.un (λ q I=>by rw[bah.1 I];omega)⟩
     .refine iH.dP<|iH.a7<|iH.av<|iH.rg<|?_;have f:=f.O N;refine iH.i' (aq Z (f.one nb Z)) Z<|iH.i' (fh Z) Z<|iH.i' (fh Z) Z<|iH.nl<|iH.a7<|iH.rt<|?_;have o:=o.O N;refine iH.cJ o (.tmp Z (.tmp Z .nil))<|?_;have g:=g.O N;exact⟨_,_,r,t,.inr ⟨by simpa using G,b,j,H,.inr (.inr ⟨by simpa using O,GE,.inr ⟨by rw[Nn K];simpa using Qa,(Nn K).symm,rfl⟩⟩)⟩,rfl,(g.dq GE).H o.un (λ kH aa ab=>by have ay:=bah.1 ab;subst ay;obtain⟨_,_,_,E⟩:=g.Uc _ aa;rw[show _=_ from o]at E;exact nomatch E),Ext.H yj o.un (λ q I=>by rw[bah.1 I];omega)⟩
end
section
variable{l m:List aS}{k:Int}
def axq:yp prog aS.cells 43 :=by
 intro a b w;obtain⟨a0,dQ,a2,⟨a3,a4⟩,a5⟩:=a;obtain⟨z8,hh,eZ,⟨ig,yA⟩,IQ⟩:=b;simp only[aS.cells,aS.mk.injEq,aw.mk.injEq];constructor
 .go_simp
  repeat' split
  all_goals simp_all
 .go_simp
  repeat' split
  all_goals simp_all
def axp:(prog).eqGuardType (prog).depth 43 =false:=GT
theorem ajh{b:Type}(n:Nat):∀(q:Nat) (l:List b),l.length=q*n->((List.finRange q).flatMap λ k=>(l.drop (k.1*n)).take n)=l
 | 0,l,h=>by
  have:l=[]:=baM GE;subst this;rfl
 | q+1,l,h=>by
  rw[bb5]at h;have a:=ajh n q (l.drop n) (by rw[bax];omega);rw[List.finRange_succ,bb4,List.flatMap_map];have e:(λ k:Fin q=>(l.drop (k.succ.1*n)).take n)=λ k:Fin q=>((l.drop n).drop (k.1*n)).take n:=by
   funext k
   rw[bd6];congr 2;show(k.1+1)*n=_;rw[bb5];omega
  show(l.drop (0*n)).take n++((List.finRange q).flatMap λ k:Fin q=>(l.drop (k.succ.1*n)).take n)=l;rw[e,a,bfd,bc8,bbU]
def WX(o:aS)(l:List aS):nums (o::l)=o.by_::o.O::o.H::o.an.x::o.an.y::o.Y::nums l:=rfl
theorem aqT:∀ {a b:List aS},nums a=nums b->a=b
 | [],[],_=>rfl
 | [],o::b,h=>by rw[WX]at h;exact nomatch h
 | o::a,[],h=>by rw[WX]at h;exact nomatch h
 | o::a,p::b,h=>by
  rw[WX,WX]at h;injection h with c h
  injection h with d h
  injection h with f h
  injection h with i h
  injection h with g h
  injection h with j h
  have e:o=p:=by
   obtain⟨r,l,m,⟨n,q⟩,k⟩:=o;obtain⟨c1,c2,c3,⟨c4,c5⟩,s⟩:=p;simp only at c d f i g j;subst c d f i g j;rfl
  rw[e,aqT h]
def aKm{l:List Int}(h:l.length=6):[l.getD 0 0,l.getD 1 0,l.getD 2 0,l.getD 3 0,l.getD 4 0,l.getD 5 0]=l:=by
 match l,h with
 | [a,b,c,d,e,f],_=>rfl
theorem aqU{a:List Int}{q:Nat}(h:a.length=q*6):nums (Np a q)=a:=by
 have e:nums (Np a q)=(List.finRange q).flatMap λ k=>(a.drop (k.1*6)).take 6:=by
  unfold nums Np;rw[List.flatMap_map];have b:(λ k:Fin q=> [(A7 (gQ a k.1)).by_,(A7 (gQ a k.1)).O,(A7 (gQ a k.1)).H,(A7 (gQ a k.1)).an.x,(A7 (gQ a k.1)).an.y,(A7 (gQ a k.1)).Y])=λ k:Fin q=>(a.drop (k.1*6)).take 6:=by
   funext k
   have g:=k.2;have c:=ajg (l:=a) (k:=k.1) GE;have d:gQ a k.1=(a.drop (k.1*6)).take 6:=by unfold gQ;congr 1;omega
   rw[<-d];exact aKm c
  exact bbh (λ f=>(List.finRange q).flatMap f) b
 rw[e];exact ajh 6 q a h
def aLG(h:∀ o∈l,o.ok):vE (nums l):=by
 intro x a;obtain⟨o,c,a⟩:=beE.1 a;obtain⟨b,g,e,f,d,i⟩:=h o c;simp only[baB,bbM,bcH]at a;rcases a with rfl|rfl|rfl|rfl|rfl|rfl
 .exact b7.1 b
 .exact b7.1 g
 .exact b7.1 e
 .exact b7.1 f
 .exact b7.1 d
 .exact b7.1 i
theorem aeZ(h:iN l=0)(p:∀ o∈l,o.ok)(q:Gf (lq l) m k):k=0/\m=l:=by
 have r:=Sh h;have t:=WY l;have s:=(Rv h).1;have d:kO.oo (lq l)=(Pack.strOf (Pack.tJ (nums l)),0):=by rw[r];exact kO.aL0 _
 have I:(nums l).length=l.length*6:=GE
 have e:Kf (nums l)=l:=by
  rw[Nn I];exact aqT (aqU I)
 rcases q with⟨c,_⟩|⟨_,u,j,b,g⟩
 .rw[d]at c;exact absurd Z c
 .rw[d]at b;obtain⟨f,rfl⟩:=Pack.aFf (aLG p) GE b;rcases g with⟨a,_⟩|⟨_,a,_⟩|⟨_,_,⟨a,_⟩|⟨a,n,i⟩⟩
  .exact absurd f a
  .omega
  .rw[e]at a;exact absurd h a
  .exact⟨i,by rw[n,e]⟩
theorem aNN{s:ByteArray}(n:Gf s m k):(k=0->iN m=0/\lq m=s)/\(k≠0->m=[]):=by
 rcases n with⟨e,d,a⟩|⟨e,g,j,l,d⟩
 .exact⟨λ h=>absurd (a ▸ h) e,λ _=>d⟩
 .rcases d with⟨a,b,c⟩|⟨_,a,b,c⟩|⟨i,o,⟨a,b,c⟩|⟨a,b,c⟩⟩
  .exact⟨λ h=>absurd (c ▸ h) a,λ _=>b⟩
  .exact⟨λ h=>GE,λ _=>b⟩
  .exact⟨λ h=>absurd (c ▸ h) a,λ _=>b⟩
  .refine⟨λ _=>?_,λ h=>absurd c h⟩;subst b;refine⟨a,?_⟩;have I:g.length=(g.length / 6)*6:=GE
   rw[Sh a,Nn I,aqU I,<- (l.2.1 i).1];rcases kO.aq8 s with⟨_,f⟩|⟨f,_⟩
   .exact f
   .omega
def auf(l:List aS):(lq l).size<=140737488351232:=by
 by_cases h:iN l=0
 .have a:=(Rv h).1;have b:=WY l;have c:=Pack.arI (nums l);rw[Sh h,kO.RL,Pack.NC];omega
 .rw[aue h];decide
def a04:List aS:=[⟨1,2,7,⟨2,-1⟩,0⟩]
theorem alm(A B:Option Addr)(c d F E:Nat)(l m:List aS)(w:World)(g:aS.ce.aF F w A c l)(o:aS.ce.aF E w B d m):
  Calls prog 48 #[.slice A l.length c,.slice B m.length d] w (λ e w'=>e=.returned (.bool (decide (l=m)))/\Ext w w'):=by
 have G:=g.M;refine bT (n:=26) func48 Z Z Z ?_;refine ar<|aG Z<|av<|aC Z<|κ (bY underlying76 Z)<|vm Z<|κ (bY underlying76 Z)<|cV Z Z<|ax<|?_;refine fr Z (λ t=>?_) (λ t=>?_)
 .refine ar<|bc Z<|bR<|b3 Z Z<|?_;rw[baA (λ e=>t (by rw[e]))];exact⟨Z,(Ext.U w)⟩
 .refine bf<|av<|aC Z<|κ (bY underlying76 Z)<|vm Z<|ax<|bp<|?_;refine di (λ D C z=>∃ k:Nat,C=[(0,.slice A l.length c),(1,.slice B m.length d),(12,J (l.length:Int)),(13,J (k:Int))]/\D=l.length-k/\Ext w z/\(k<=l.length)/\(∀ j,j<k->l[j]? =m[j]?)) _ _ ⟨0,Z,Z,(Ext.U w),GE,λ j y=>absurd y GE⟩ (c' Z Z Z) ?_;rintro M L O ⟨k,rfl,rfl,a,N,r⟩;have G:=g.M;refine ar<|cF Z Z<|ax<|av<|?_;refine c7 Z (λ H=>?_) (λ H=>?_)
  .obtain⟨s,b⟩:=iK (l:=l) (i:=k) GE;obtain⟨v,h⟩:=iK (l:=m) (i:=k) GE;refine bf<|av<|bp<|aC Z<|aG Z<|av<|?_;refine c_ [(3,0),(7,0)] [0,1,2,3,4,5,6,7,8] ?_;refine bt Z Z<|bt Z Z<|aA Z (λ _=>bD k underlying76 eu Z Z ((g.be a).Y (aL k)) Z GE)<|dE Z (λ _ x=>aq Z (τ.aF.G yX ((g.be (Φ a x)).O (aL k)) b iw eu))<|bt Z Z<|bt Z Z<|aA Z (λ _=>bD k underlying76 eu Z Z ((o.be a).Y (aL k)) Z GE)<|dE Z (λ _ x=>aq Z (τ.aF.G yX ((o.be (Φ a x)).O (aL k)) h iw eu))<|aA Z (λ _=>Cb axq axp (p:=s) (q:=v) Z Z)<|fn λ P K=>?_;have u:=Φ a K;refine a7<|?_;refine dB Z (λ f=>?_) (λ f=>?_)
   .refine ar<|bc Z<|dO<|bR<|k1<|dO<|bR<|b3 Z Z<|?_;rw[baA (λ e=>by rw[e,h]at b;injection b with b;exact absurd b.symm (by first|exact Rq f|exact f))];exact⟨Z,u⟩
   .refine dP<|bK<|cW Z Z Z<|?_;exact cM ⟨k+1,Z,Z,u,GE,pC r (by rw[b,h,(by first|exact PD f|exact f:s=v)])⟩
  .refine cI<|cH<|cU<|cG<|a7<|ar<|bc Z<|b3 Z Z<|?_;rw[baG (PC GE GE r)];exact⟨Z,a⟩
end
def aGr{w:World}{cs:List Value}{a:ByteArray}(h:Ko.bv w cs a):cs=[.string a]:=bcs (show cs=[.string a]/\a.size<=140737488351232 from h)
end Go.Proofs.YtooonebcoaleiaaGreat
namespace Go.Proofs.YtooonebcoaleiaaGreat.Tree
open Tryz
open Go.RowKit Go.Proofs.YtooonebcoaleiaaGreat Go.Proofs.YtooonebcoaleiaaGreat.fg Go.Proofs.YtooonebcoaleiaaGreat.Mark
def Mg(k:Nat):Nat->List (List UInt8)->List dT
 | 0,_=> []
 | e+1,l=>if k.testBit e then Xq (l.take (2 ^ e))::Mg k e (l.drop (2 ^ e))else Mg k e l
def Ud(l:List dT):List Value:=l.map λx=>Value.int .u64 (U x)
def GW(_:Nat)(u:Value):Prop:=∃ n:Int,u=.int .u64 n
def aUa(k:Nat)(l:List ByteArray)(w:World)(e:Ending)(w':World):Prop :=
 ∃ A c,e=.returned (.tuple #[.slice A (Mg k 9 (lists l)).length c,.int .i64 0])/\Own w' w.heap.size 129 1 GW (.slice A (Mg k 9 (lists l)).length c) (Mg k 9 (lists l)).length (Ud (Mg k 9 (lists l)))/\Below w.heap.size w w'
end Go.Proofs.YtooonebcoaleiaaGreat.Tree
namespace Go.Proofs.YtooonebcoaleiaaGreat.Tree
open Tryz
open Go.RowKit Go.Proofs.YtooonebcoaleiaaGreat Go.Proofs.YtooonebcoaleiaaGreat.fg Go.Proofs.YtooonebcoaleiaaGreat.Mark
def aJj:List dT->dT
 | []=>0#64
 | x::r=>match r with
  | []=>x
  | y::t=>Nr x (aJj (y::t))
def aUb(w:World)(e:Ending)(w':World):Prop:=∃(A:Option Addr) (n c:Nat) (k:Int),e=.returned (.tuple #[.slice A n c,.int .i64 k])/\Below w.heap.size w w'
def GS(_:Nat)(u:Value):Prop:=∃ s:ByteArray,u=.string s
def aTs(w:World)(n:Nat)(l:List ByteArray)(e:Ending)(w':World):Prop :=
 ∃ A c,e=.returned (.slice A n c)/\Own w' w.heap.size 9 1 GS (.slice A n c) n (aAm l)/\Below w.heap.size w w'
end Go.Proofs.YtooonebcoaleiaaGreat.Tree
namespace Go.Proofs.YtooonebcoaleiaaGreat.Tree
open Tryz
open Go.RowKit Go.Proofs.YtooonebcoaleiaaGreat Go.Proofs.YtooonebcoaleiaaGreat.fg Go.Proofs.YtooonebcoaleiaaGreat.Mark
def LP:Nat->dT->Nat->Nat->List dT->dT×Bool
 | 0,m,_,_,t=>(m,t.isEmpty)
 | f+1,m,d9,n,t =>
  if n=1 then(m,t.isEmpty)else
  match t.getLast? with
  | none=>(0#64,false)
  | some x=>if d9<ou n then(Nr (LP f m d9 (ou n) t.dropLast).1 x,(LP f m d9 (ou n) t.dropLast).2)
   else(Nr x (LP f m (d9-ou n) (n-ou n) t.dropLast).1,(LP f m (d9-ou n) (n-ou n) t.dropLast).2)
def aTr(w:World)(r:dT×Bool)(e:Ending)(w':World):Prop:=e=.returned (.tuple #[.int .u64 (U r.1),.bool r.2])/\w=w'
def anN(b:dT)(s:List UInt8)(a n:Nat)(t:List dT):Bool:=(LP n (AT s) a n t).2 && decide ((LP n (AT s) a n t).1=b)
end Go.Proofs.YtooonebcoaleiaaGreat.Tree
namespace Go.Proofs.YtooonebcoaleiaaGreat.Tree
open Tryz
open Go.RowKit Go.Proofs.YtooonebcoaleiaaGreat Go.Proofs.YtooonebcoaleiaaGreat.fg Go.Proofs.YtooonebcoaleiaaGreat.Mark

def XI:Nat->List (List UInt8)->Nat->List dT
 | 0,_,_=> []
 | f+1,l,d9=>if l.length=1 then[]else
  if d9<ou l.length then XI f (l.take (ou l.length)) d9++ [Xq (l.drop (ou l.length))]
  else XI f (l.drop (ou l.length)) (d9-ou l.length)++ [Xq (l.take (ou l.length))]
def aUR(w:World)(t:List dT)(e:Ending)(w':World):Prop:=∃ A c,e=.returned (.slice A t.length c)/\Own w' w.heap.size 129 1 GW (.slice A t.length c) t.length (Ud t)/\Below w.heap.size w w'
end Go.Proofs.YtooonebcoaleiaaGreat.Tree
namespace Go.Proofs.YtooonebcoaleiaaGreat.Tree
open Tryz
open Go.Proofs.YtooonebcoaleiaaGreat.fg Go.Proofs.YtooonebcoaleiaaGreat.Mark

def aj7:Nat->Nat->Nat->Nat
 | 0,_,_=>0
 | f+1,d9,n=>if n=1 then 0 else if d9<ou n then aj7 f d9 (ou n)+1 else aj7 f (d9-ou n) (n-ou n)+1
def asI:Nat->Nat->Nat->List Bool
 | 0,_,_=> []
 | f+1,d9,n=>if n=1 then[]else if d9<ou n then asI f d9 (ou n)++ [false]else asI f (d9-ou n) (n-ou n)++ [true]
def aPw(m:dT)(x:Bool×dT):dT:=if x.1 then Nr x.2 m else Nr m x.2
def along(a:List Bool)(t:List dT)(m:dT)(k:Nat):dT:=((a.zip t).take k).foldl aPw m
end Go.Proofs.YtooonebcoaleiaaGreat.Tree
namespace Go.Proofs.YtooonebcoaleiaaGreat.Tree
open Tryz
open Go.RowKit Go.Proofs.YtooonebcoaleiaaGreat Go.Proofs.YtooonebcoaleiaaGreat.fg Go.Proofs.YtooonebcoaleiaaGreat.Mark

def aUS(w:World)(t:List dT)(e:Ending)(w':World):Prop:=∃ A c,e=.returned (.tuple #[.slice A t.length c,.int .i64 0])/\Own w' w.heap.size 129 1 GW (.slice A t.length c) t.length (Ud t)/\Below w.heap.size w w'
def aTt(w:World)(n:Nat)(l:List dT)(e:Ending)(w':World):Prop :=
 ∃ A c,e=.returned (.slice A n c)/\Own w' w.heap.size 129 1 GW (.slice A n c) n (Ud l)/\Below w.heap.size w w'
end Go.Proofs.YtooonebcoaleiaaGreat.Tree
namespace Go.Proofs.YtooonebcoaleiaaGreat
open Tryz
section
open fg
def aUQ(l:List ByteArray)(n k:Int)(t:List (BitVec 64)):Prop:=(k=0/\0<=n/\n<(l.length:Int)/\t=Tree.XI l.length (Tree.lists l) n.toNat)\/(k≠0/\¬(0<=n/\n<(l.length:Int))/\t=[])
def aUI(W:ag)(L:List (List aS))(n e:Int)(r:BitVec 64):Prop :=
 (e=0/\qF W L/\0<=n/\n<=(L.length:Int)/\r=Tree.Xq (Tree.lists ((L.take n.toNat).map lq)))\/(e≠0/\¬(qF W L/\0<=n/\n<=(L.length:Int))/\r=0)
def aib(W:ag)(L:List (List aS))(n e:Int)(s:ByteArray)(t:List (BitVec 64)):Prop :=
 (e=0/\qF W L/\0<=n/\n<(L.length:Int)/\s=(L.map lq).getD n.toNat ByteArray.empty/\t=Tree.XI (L.map lq).length (Tree.lists (L.map lq)) n.toNat)\/(e≠0/\¬(qF W L/\0<=n/\n<(L.length:Int))/\s=hY []/\t=[])
def aUP(r:BitVec 64)(n a:Int)(s:ByteArray)(t:List (BitVec 64))(m:List aS)(k:Int)(b:Bool):Prop :=
 (Tree.anN r s.data.toList a.toNat n.toNat t=true/\Gf s m k/\b=(k == 0))\/(Tree.anN r s.data.toList a.toNat n.toNat t=false/\m=[]/\b=false/\k=0)
end
end Go.Proofs.YtooonebcoaleiaaGreat
