import Derived.Test.YtooonebcoaleiaaGreatTrS
set_option linter.all false
set_option maxRecDepth 100000
set_option maxHeartbeats 4000000
open Go.RowKit
namespace Go.Proofs.YtooonebcoaleiaaGreat
open Tryz
abbrev bd5:=@List.getElem?_mapIdx
abbrev bfj:=@Nat.lt_of_div_eq_zero
section
variable{j i:Nat}
def ah4:yp prog aw.cells 41 :=by
 intro a b w;obtain⟨a0,dQ⟩:=a;obtain⟨z8,hh⟩:=b;simp only[aw.cells,aw.mk.injEq];constructor
 .go_simp
  repeat' split
  all_goals simp_all
 .go_simp
  repeat' split
  all_goals simp_all
def ah3:(prog).eqGuardType (prog).depth 41 =false:=GT
def axL:dU prog bN 22 3 8:=dU.O (z:=J 0) (k:=1) underlying22 y5 rfl rfl GP (λ j u h=>CZ j u h)
def ZP:dU prog kY 98 129 8:=dU.O (z:=.int .u64 0) (k:=1) underlying98 V9 rfl rfl GP (λ j u h=>Xn j u h)
open fg
def ay1{W:ag}(b:Good W)(a:j<i)(c:i<W.aT.length):W.aT.getD j default≠W.aT.getD i default:=λ e=>by
 have h:=(b.aT i _ (cg (u:=default) c)).2;rw[<-e,<-Bool.not_eq_true,bdd]at h;exact h (bcd.2 ⟨j,by rw[baR,bap a];exact cg GE⟩)
theorem aPT{W:ag}(d:Good W)(c:j<(W.ah.take i).length)(a:i<W.ah.length):((W.ah.take i).getD j default).id<(W.ah.getD i default).id/\((W.ah.take i).getD j default).an≠(W.ah.getD i default).an:=by
 have b:j<i:=by rw[baf]at c;omega
 have g:=(baS.1 d.H) j i GE a b;have e:(W.ah.take i).getD j default=W.ah[j]:=by rw[baa,baR,bap b,bac GE];rfl
 have f:W.ah.getD i default=W.ah[i]:=by rw[baa,bac a];rfl
 rw[e,f];exact g
def aK8{k:Int}(h:1<=k/\k<=2):ag.zd k=5*(2-k):=by
 rcases(show k=1\/k=2 by omega)with rfl|rfl<;>rfl
def aIJ{W:ag}(a:Good W){k:Nat}{t:bb}(h:W.ah[k]? =some t):1<=t.id/\t.id<=W.next-1:=by have:=a.ids k t h;omega
def aKZ{f:Bool}{m p:Int}(a:f=true)(h:0<=m/\m<=1000000/\(m<=0\/p=3)):((f && bA m 0 1000000) && ((m == 0) || (p == 3)))=true:=by
 rw[a,kj h.1 h.2.1];rcases h.2.2 with k|k
 .rw[show m=0 by omega];rfl
 .rw[k];simp
theorem asl(a:ag.cS)(W:ag)(w:World)(bk:ag.fd w a W)(aZ:Good W):
  Calls prog 77 #[.agg ((ag.cells a W).toArray)] w (λ e w'=>e=.returned (J 0)/\Ext w w'):=by
 have tu:=aZ.dj;have JE:=aZ.l5;have uL:=aZ.sl;have EH:=aZ.zc;have p_:=aZ.next;have iy:=aZ.db;have ans:=bk.M.M;have bW:=bk.T.1;refine bT (n:=213) func77 Z Z Z ?_;refine cZ Z Z λ ch a6 aV cY γ=>?_;refine aG Z<|av<|ar<|κ (aj lA Z)<|κ (aq Z (γ.Y [J W.am.O,J W.am.high,.slice a.P W.am.G.length a.p] gA gB Z))<|cf abm Z (afq W.am _ _ _ aZ.am (bk.P.be aV)) λ dr c0=>?_;have bo:=Φ aV c0;refine aG Z<|aC Z<|cV Z Z<|ax<|ef Z<|bf<|av<|ar<|κ (aj lY Z)<|?_;have γ:=γ.O c0;refine a1 Z γ lZ Z<|κ (bY underlying25 Z)<|κ (gy Z Z)<|vm Z<|aR Z (λ hc=>aj fC Z)<|aR Z (λ hc=>aq (gt hc Z) (γ.one gR Z))<|aR Z (λ hc=>bY underlying26 (gt hc Z))<|aR Z (λ hc=>gy (gt hc Z) Z)<|κ (dS Z Z Z Z)<|ax<|?_;have lf:((decide (8<(W.aT.length:Int))) || (decide (100<(W.ah.length:Int))))=false:=by rw[baA GE,baA GE];rfl
 refine ef (by rw[<-lf];rfl)<|bf<|av<|ar<|κ (aj oJ Z)<|a1 Z γ et Z<|κ (bY underlying22 Z)<|κ (aj lY Z)<|a1 Z γ lZ Z<|κ (bY underlying25 Z)<|cV Z Z<|vm Z<|aR Z (λ hc=>aj rZ Z)<|aR Z (λ hc=>aq (gt hc Z) (γ.one et Z))<|aR Z (λ hc=>bY underlying22 (gt hc Z))<|aR Z (λ hc=>aj lA Z)<|aR Z (λ hc=>aj qK (gt hc Z))<|aR Z (λ hc=>aq (gt hc Z) (γ.one et Z))<|aR Z (λ hc=>bY underlying22 (gt hc Z))<|aR Z (λ hc=>bne (gt hc Z) (gt hc Z))<|κ (dS Z Z Z Z)<|vm Z<|?_;refine aR Z (λ hc=>aj vQ Z)<|aR Z (λ hc=>aq (gt hc Z) (γ.one aH Z))<|iD Z l_ (λ hc=>b6 (gt hc Z) (b6 Z (b6 Z Z))) (λ hc=>ml W.next 1 1000000 _) λ xW eW=>?_;have lM:=Φ bo eW;refine aR Z (λ hc=>dj (gt hc Z))<|κ (dS Z Z Z Z)<|vm Z<|aR Z (λ hc=>aj yJ Z)<|?_;have γ:=γ.O eW;refine aR Z (λ hc=>aq (gt hc Z) (γ.one aH Z))<|iD Z l_ (λ hc=>b6 (gt hc Z) (b6 Z (b6 Z Z))) (λ hc=>ml W.db 0 1000000 _) λ fx dy=>?_;have cj:=Φ lM dy;refine aR Z (λ hc=>dj (gt hc Z))<|κ (dS Z Z Z Z)<|ax<|?_;have lD:(((((W.bl.length:Int) != (W.aT.length:Int)) || ((W.bE.length:Int) != (W.am.G.length:Int))) || (!(bA W.next 1 1000000))) || (!(bA W.db 0 1000000)))=false:=by rw[kj p_.1 p_.2,kj iy.1 iy.2,uL,EH];simp
 refine ef (by rw[<-lD];rfl)<|bf<|ar<|aG Z<|av<|ar<|κ (aj lY Z)<|?_;have γ:=γ.O dy;refine a1 Z γ lZ Z<|κ (bY underlying25 Z)<|vm Z<|ax<|bp<|?_;refine di (λ bJ bH aI=>∃ i:Nat,∃ f1:Bool,bH=[(1,.pointer (bd a6)),(2,J 0),(4,.bool f1),(60,J (W.aT.length:Int)),(61,J (i:Int))]/\bJ=W.aT.length-i/\Ext w aI/\aO aI a6 (ag.cells a W) 28 (0,0)/\(i<=W.aT.length)/\(f1=true)) _ _ ⟨0,true,Z,Z,cj,γ,GE,rfl⟩ (c' Z Z Z) ?_;rintro sF aTO C7 ⟨i,f1,rfl,rfl,mq,γ,aGk,MD⟩;refine ar<|cF Z Z<|ax<|av<|?_;refine c7 Z (λ Ax=>?_) (λ Ax=>?_)
 .have ij:=aZ.bl i _ (cg (u:=0) GE);refine bf<|av<|bp<|aC Z<|aG Z<|av<|?_;refine c_ [(3,0),(5,0),(8,0),(9,0),(13,0),(16,0),(17,0)] [0,1,2,3,4,5,6,7,8,9,10,11,12,13,14,15,16,17,18,19] ?_;refine bt Z Z<|bt Z Z<|bC Z Z (λ hc _=>aj lA Z)<|cu Z Z (λ hc _ x=>aq (gt hc Z) ((γ.O x).Y [J W.am.O,J W.am.high,.slice a.P W.am.G.length a.p] gA gB Z))<|bC Z Z (λ hc _=>aj lY Z)<|cu Z Z (λ hc _ x=>aq (gt hc Z) ((γ.O x).one lZ Z))<|ft Z Z Z<|bC Z Z (λ hc _=>bD i underlying25 bq (gt hc Z) (gt hc Z) ((bk.B.be mq).Y (aL i)) Z GE)<|cu Z Z (λ hc _ x=>aq (gt hc Z) (τ.aF.G ng ((bk.B.be (Φ mq x)).O (aL i)) (cg (l:=W.aT) (u:=default) GE) bS bq))<|c8 Z Z Z Z Z Z abo (λ hc=>b6 (gt hc Z) (b6 (gt hc Z) Z)) (λ hc _ x=>afr W.am _ _ (W.aT.getD i default) _ aZ.am (bk.P.be (Φ mq x))) Z<|aA Z (λ _=>cQ Z Z Z Z)<|bt Z Z<|bC Z Z (λ hc _=>aj oJ Z)<|cu Z Z (λ hc _ x=>aq (gt hc Z) ((γ.O x).one et Z))<|ft Z Z Z<|bC Z Z (λ hc _=>bD i underlying22 cO (gt hc Z) (gt hc Z) ((bk.S.be mq).Y (aL i)) Z GE)<|cu Z Z (λ hc _ x=>aq (gt hc Z) (τ.aF.H ew ((bk.S.be (Φ mq x)).O (aL i)) (cg (l:=W.bl) (u:=0) GE) Z aH))<|c8 Z Z Z Z Z Z l_ (λ hc=>b6 (gt hc Z) (b6 Z (b6 Z Z))) (λ hc _ x=>ml (W.bl.getD i 0) 0 1000000 _) Z<|aA Z (λ _=>cQ Z Z Z Z)<|aA Z (λ _=>fh Z)<|fn λ ow cK=>?_;have fP:=Φ mq cK;refine a7<|aC Z<|vm Z<|ax<|bp<|?_;have γ:=γ.O cK;refine di (λ bJ bH aI=>∃ j:Nat,∃ f2:Bool,bH=[(1,.pointer (bd a6)),(2,J 0),(4,.bool f2),(5,J (i:Int)),(60,J (W.aT.length:Int)),(61,J (i:Int)),(62,.bool (decide ((i:Int)<(W.aT.length:Int)))),(63,J (i:Int)),(64,.bool f1),(65,.bool f1),(66,cP (f1 == true) (.pointer (bd a6))),(67,cP (f1 == true) (.agg #[J W.am.O,J W.am.high,.slice a.P W.am.G.length a.p])),(68,cP (f1 == true) (.pointer (some ⟨a6,3,none⟩))),(69,cP (f1 == true) (.slice a.B W.aT.length a.b)),(70,cP (f1 == true) (J (i:Int))),(71,cP (f1 == true) (.pointer (some ⟨fv a.B,j7 a.B+i*2,none⟩))),(72,cP (f1 == true) (.agg #[J ((W.aT.getD i default).x),J ((W.aT.getD i default).y)])),(73,cP (f1 == true) (.bool (W.am.ground (W.aT.getD i default)))),(74,.bool (f1 && (W.am.ground (W.aT.getD i default)))),(75,.bool (f1 && (W.am.ground (W.aT.getD i default)))),(76,cP ((f1 && (W.am.ground (W.aT.getD i default)))== true) (.pointer (some ⟨a6,4,none⟩))),(77,cP ((f1 && (W.am.ground (W.aT.getD i default)))== true) (.slice a.S W.bl.length a.s)),(78,cP ((f1 && (W.am.ground (W.aT.getD i default)))== true) (J (i:Int))),(79,cP ((f1 && (W.am.ground (W.aT.getD i default)))== true) (.pointer (some ⟨fv a.S,j7 a.S+i*1,none⟩))),(80,cP ((f1 && (W.am.ground (W.aT.getD i default)))== true) (J (W.bl.getD i 0))),(81,cP ((f1 && (W.am.ground (W.aT.getD i default)))== true) (.bool (bA (W.bl.getD i 0) 0 1000000))),(82,.bool ((f1 && (W.am.ground (W.aT.getD i default))) && (bA (W.bl.getD i 0) 0 1000000))),(83,J (i:Int)),(84,J (j:Int))]/\bJ=i-j/\Ext w aI/\aO aI a6 (ag.cells a W) 28 (0,0)/\(j<=i)/\(f2=true)) _ _ ⟨0,((f1 && W.am.ground (W.aT.getD i default)) && bA (W.bl.getD i 0) 0 1000000),Z,Z,fP,γ,GE,by rw[MD,(aZ.aT i _ (cg GE)).1,kj ij.1 ij.2];rfl⟩ (c' Z Z Z) ?_;rintro oP avO vk ⟨j,f2,rfl,rfl,gw,γ,aGl,G4⟩;refine ar<|cF Z Z<|ax<|av<|?_;refine c7 Z (λ Cz=>?_) (λ Cz=>?_)
  .refine bf<|av<|bp<|aC Z<|aG Z<|?_;refine c_ [(3,0),(6,0),(8,0),(11,0)] [0,1,2,3,4,5,6,7,8,9,10,11,12,13,14] ?_;refine bt Z Z<|bt Z Z<|bC Z Z (λ hc _=>aj lY Z)<|cu Z Z (λ hc _ x=>aq (gt hc Z) ((γ.O x).one lZ Z))<|ft Z Z Z<|bC Z Z (λ hc _=>bD j underlying25 bq (gt hc Z) (gt hc Z) ((bk.B.be gw).Y (aL j)) Z GE)<|cu Z Z (λ hc _ x=>aq (gt hc Z) (τ.aF.G ng ((bk.B.be (Φ gw x)).O (aL j)) (cg (l:=W.aT) (u:=default) GE) bS bq))<|bC Z Z (λ hc _=>aj lY Z)<|cu Z Z (λ hc _ x=>aq (gt hc Z) ((γ.O x).one lZ Z))<|ft Z Z Z<|bC Z Z (λ hc _=>bD i underlying25 bq (gt hc Z) (gt hc Z) ((bk.B.be gw).Y (aL i)) Z GE)<|cu Z Z (λ hc _ x=>aq (gt hc Z) (τ.aF.G ng ((bk.B.be (Φ gw x)).O (aL i)) (cg (l:=W.aT) (u:=default) GE) bS bq))<|bC Z Z (λ hc _=>Cb ah4 ah3 (p:=W.aT.getD j default) (q:=W.aT.getD i default) (gt hc Z) (gt hc Z))<|aA Z (λ _=>cQ Z Z Z Z)<|aA Z (λ _=>fh Z)<|fn λ Bo iq=>?_;have mR:=Φ gw iq;refine bK<|cW Z Z Z<|?_;have γ:=γ.O iq;exact cM ⟨j+1,f2 && (!decide (W.aT.getD j default=W.aT.getD i default)),Z,Z,mR,γ,GE,by rw[G4,baA (ay1 aZ (j:=j) (i:=i) GE GE)];rfl⟩
  .refine cI<|cH<|cU<|cG<|bK<|cW Z Z Z<|?_;exact cM ⟨i+1,f2,Z,Z,gw,γ,GE,G4⟩
 .refine cI<|cH<|cU<|cG<|a7<|av<|ar<|κ (aj rZ Z)<|a1 Z γ et Z<|κ (bY underlying22 Z)<|vm Z<|ax<|bp<|?_;refine di (λ bJ bH aI=>∃ m:Nat,∃ f3:Bool,bH=[(1,.pointer (bd a6)),(2,J 0),(4,.bool f3),(104,.slice a.M W.bE.length a.m),(105,J (W.bE.length:Int)),(106,J (m:Int))]/\bJ=W.bE.length-m/\Ext w aI/\aO aI a6 (ag.cells a W) 28 (0,0)/\(m<=W.bE.length)/\(f3=true)) _ _ ⟨0,f1,Z,Z,mq,γ,GE,MD⟩ (c' Z Z Z) ?_;rintro xM ahA wN ⟨m,f3,rfl,rfl,jD,γ,Vt,Qp⟩;refine ar<|cF Z Z<|ax<|av<|?_;refine c7 Z (λ P8=>?_) (λ P8=>?_)
  .have Hg:=aZ.bE m _ (cg (u:=0) GE);refine bf<|av<|bp<|aC Z<|κ (bD m underlying22 cO Z Z ((bk.M.be jD).Y (aL m)) Z GE)<|κ (aq Z (τ.aF.H ew ((bk.M.be jD).O (aL m)) (cg (l:=W.bE) (u:=0) GE) Z aH))<|va Z<|aG Z<|rg<|vm Z<|vm Z<|er Z Z<|iD Z l_ (λ hc=>b6 (gt hc Z) (b6 Z (b6 Z Z))) (λ hc=>ml (W.bE.getD m 0) 0 1000000 _) λ rJ ek=>?_;have gU:=Φ jD ek;refine κ (cQ Z Z Z Z)<|vm Z<|er Z Z<|aR Z (λ hc=>beq (gt hc Z) Z)<|Bk Z (λ hc=>(gt hc Z))<|dV Z Z Z Z (λ hc=>aj lA Z) Z<|dV Z Z Z Z (λ hc=>aj qK (gt hc Z)) Z<|?_;have γ:=γ.O ek;refine dV Z Z Z Z (λ hc=>aq (gt hc Z) (γ.one et Z)) Z<|dV Z Z Z Z (λ hc=>fW Z) Z<|dV Z Z Z Z (λ hc=>bD m underlying22 cO (gt hc Z) (gt hc Z) ((bk.P.be gU).Y (aL m)) Z GE) Z<|dV Z Z Z Z (λ hc=>aq (gt hc Z) (τ.aF.H ew ((bk.P.be gU).O (aL m)) (cg (l:=W.am.G) (u:=0) GE) Z aH)) Z<|dV Z Z Z Z (λ hc=>beq (gt hc Z) Z) Z<|aR Z (λ hc=>Rw hc (gt hc Z) Z Z)<|κ (cQ Z Z Z Z)<|va Z<|nl<|bK<|cW Z Z Z<|?_;exact cM ⟨m+1,(f3 && (bA (W.bE.getD m 0) 0 1000000)) && (((W.bE.getD m 0)== 0) || ((W.am.G.getD m 0)== 3)),Z,Z,gU,γ,GE,aKZ Qp Hg⟩
  .refine cI<|cH<|cU<|cG<|a7<|av<|ar<|κ (aj fC Z)<|a1 Z γ gR Z<|κ (bY underlying26 Z)<|vm Z<|ax<|bp<|?_;refine di (λ bJ bH aI=>∃ t:Nat,∃ f4:Bool,bH=[(1,.pointer (bd a6)),(4,.bool f4),(131,.slice a.T W.ah.length a.t),(132,J (W.ah.length:Int)),(133,J (t:Int))]/\bJ=W.ah.length-t/\Ext w aI/\aO aI a6 (ag.cells a W) 28 (0,0)/\(t<=W.ah.length)/\(f4=true)) _ _ ⟨0,f3,Z,Z,jD,γ,GE,Qp⟩ (c' Z Z Z) ?_;rintro kl aTX KH ⟨t,f4,rfl,rfl,oB,γ,xB,am1⟩;have arR:=γ.lt;refine ar<|cF Z Z<|ax<|av<|?_;refine c7 Z (λ r_=>?_) (λ r_=>?_)
   .have sg:=cg (u:=default) (l:=W.ah) (j:=t) GE;have cA:=aZ.ah t _ sg;have fJ:=cA.eE;have hid:=aIJ aZ sg;have MR:=bdp t W.ah;refine bf<|av<|bp<|aC Z<|κ (bD t underlying26 eg Z Z ((bk.T.be oB).Y (aL t)) Z GE)<|κ (aq Z (τ.aF.G gm ((bk.T.be oB).O (aL t)) (cg (l:=W.ah) (u:=default) GE) oI eg))<|cy s_ Z λ Bq qG jL aJR hX=>?_;have mT:=Φ oB jL;refine va Z<|ck Z Z hX Z eg Z Z λ NP nr hX=>?_;have yi:=Ext.H mT nr bn;refine ax<|av<|ar<|κ (aj Ar Z)<|a1 Z hX aH Z<|cf l_ Z (ml ((W.ah.getD t default).O) 1 2 _) λ C9 hb=>?_;have mU:=Φ yi hb;refine κ (dj Z)<|ax<|?_;have acR:(!(bA ((W.ah.getD t default).O) 1 2))=false:=by rw[kj fJ.1 fJ.2];rfl
    refine ef (by rw[<-acR];rfl)<|bf<|av<|?_;refine c_ [(3,0),(5,0),(7,0),(11,0),(13,0),(16,0),(20,0),(22,0),(23,0),(27,0),(29,0),(30,0),(32,0),(36,0),(38,0),(41,0)] [0,1,2,3,4,5,6,7,8,9,10,11,12,13,14,15,16,17,18,19,20,21,22,23,24,25,26,27,28,29,30,31,32,33,34,35,36,37,38,39,40,41,42,43] ?_;refine bt Z Z<|bt Z Z<|bC Z Z (λ hc _=>aj r6 Z)<|?_;have hX:=hX.O hb;refine cu Z Z (λ hc _ x=>aq (gt hc Z) ((hX.O x).one aH Z))<|bC Z Z (λ hc _=>aj vQ Z)<|?_;have γ:=((γ.O jL).H nr aJ).O hb;refine cu Z Z (λ hc _ x=>aq (gt hc Z) ((γ.O x).one aH Z))<|bC Z Z (λ hc _=>hi (gt hc Z) Z dK)<|c8 Z Z Z Z Z Z l_ (λ hc=>b6 (gt hc Z) (b6 Z (b6 (gt hc Z) Z))) (λ hc _ x=>ml ((W.ah.getD t default).id) 1 (W.next-1) _) Z<|aA Z (λ _=>cQ Z Z Z Z)<|bt Z Z<|bC Z Z (λ hc _=>aj ur Z)<|cu Z Z (λ hc _ x=>aq (gt hc Z) ((hX.O x).one aH Z))<|bC Z Z (λ hc _=>aj lY Z)<|cu Z Z (λ hc _ x=>aq (gt hc Z) ((γ.O x).one lZ Z))<|bC Z Z (λ hc _=>bY underlying25 (gt hc Z))<|bC Z Z (λ hc _=>hi (gt hc Z) Z dK)<|c8 Z Z Z Z Z Z l_ (λ hc=>b6 (gt hc Z) (b6 Z (b6 (gt hc Z) Z))) (λ hc _ x=>ml ((W.ah.getD t default).H) 0 ((W.aT.length:Int)-1) _) Z<|aA Z (λ _=>cQ Z Z Z Z)<|bt Z Z<|bC Z Z (λ hc _=>aj lA Z)<|cu Z Z (λ hc _ x=>aq (gt hc Z) ((γ.O x).Y [J W.am.O,J W.am.high,.slice a.P W.am.G.length a.p] gA gB Z))<|bC Z Z (λ hc _=>aj ld Z)<|cu Z Z (λ hc _ x=>aq (gt hc Z) ((hX.O x).Y [J ((W.ah.getD t default).an.x),J ((W.ah.getD t default).an.y)] bS bq Z))<|c8 Z Z Z Z Z Z abo (λ hc=>b6 (gt hc Z) (b6 (gt hc Z) Z)) (λ hc _ x=>afr W.am _ _ ((W.ah.getD t default).an) _ aZ.am (bk.P.be (Φ mU x))) Z<|aA Z (λ _=>cQ Z Z Z Z)<|bt Z Z<|bC Z Z (λ hc _=>aj Ec Z)<|cu Z Z (λ hc _ x=>aq (gt hc Z) ((hX.O x).one aH Z))<|bC Z Z (λ hc _=>aj Ar Z)<|?_;refine cu Z Z (λ hc _ x=>aq (gt hc Z) ((hX.O x).one aH Z))<|c8 Z Z Z Z Z Z L6 (λ hc=>b6 (gt hc Z) Z) (λ hc _ x=>Nv ((W.ah.getD t default).O) _ fJ) Z<|bC (v:=J (ag.gT ((W.ah.getD t default).O))) Z Z (λ hc _=>L_ (gt hc Z) GT)<|c8 Z Z Z Z Z Z l_ (λ hc=>b6 (gt hc Z) (b6 Z (b6 (gt hc Z) Z))) (λ hc _ x=>ml ((W.ah.getD t default).K) 1 (ag.gT ((W.ah.getD t default).O)) _) Z<|aA Z (λ _=>cQ Z Z Z Z)<|bt Z Z<|bC Z Z (λ hc _=>aj r3 Z)<|cu Z Z (λ hc _ x=>aq (gt hc Z) ((hX.O x).one aH Z))<|bC Z Z (λ hc _=>aj Ar Z)<|cu Z Z (λ hc _ x=>aq (gt hc Z) ((hX.O x).one aH Z))<|bC Z Z (λ hc _=>hi Z (gt hc Z) dK)<|bC Z Z (λ hc _=>mD Z (gt hc Z) dK)<|c8 Z Z Z Z Z Z l_ (λ hc=>b6 (gt hc Z) (b6 Z (b6 (gt hc Z) Z))) (λ hc _ x=>ml ((W.ah.getD t default).load) 0 (5*(2-((W.ah.getD t default).O))) _) Z<|aA Z (λ _=>cQ Z Z Z Z)<|aA Z (λ _=>fh Z)<|fn λ X9 k4=>?_;have yj:=Φ mU k4;refine a7<|ar<|κ (aj fC Z)<|?_;have γ:=γ.O k4;refine a1 Z γ gR Z<|vm Z<|κ (afy t (W.ah.take t).length underlying26 eg Z Z Z GE (by rw[baf];omega))<|κ (bY underlying26 Z)<|vm Z<|ax<|bp<|?_;have hX:=hX.O k4;refine di (λ bJ bH aI=>∃ q:Nat,∃ f5:Bool,bH=[(1,.pointer (bd a6)),(4,.bool f5),(9,J (t:Int)),(10,.pointer (bd qG)),(131,.slice a.T W.ah.length a.t),(132,J (W.ah.length:Int)),(133,J (t:Int)),(134,.bool (decide ((t:Int)<(W.ah.length:Int)))),(135,J (t:Int)),(136,.pointer (some ⟨fv a.T,j7 a.T+t*7,none⟩)),(137,.agg #[J ((W.ah.getD t default).id),J ((W.ah.getD t default).H),J ((W.ah.getD t default).O),J ((W.ah.getD t default).an.x),J ((W.ah.getD t default).an.y),J ((W.ah.getD t default).K),J ((W.ah.getD t default).load)]),(138,.pointer (some ⟨qG,2,none⟩)),(139,J ((W.ah.getD t default).O)),(140,.bool (bA ((W.ah.getD t default).O) 1 2)),(141,.bool (!(bA ((W.ah.getD t default).O) 1 2))),(142,.bool f4),(143,.bool f4),(144,cP (f4 == true) (.pointer (bd qG))),(145,cP (f4 == true) (J ((W.ah.getD t default).id))),(146,cP (f4 == true) (.pointer (some ⟨a6,7,none⟩))),(147,cP (f4 == true) (J W.next)),(148,cP (f4 == true) (J (W.next-1))),(149,cP (f4 == true) (.bool (bA ((W.ah.getD t default).id) 1 (W.next-1)))),(150,.bool (f4 && (bA ((W.ah.getD t default).id) 1 (W.next-1)))),(151,.bool (f4 && (bA ((W.ah.getD t default).id) 1 (W.next-1)))),(152,cP ((f4 && (bA ((W.ah.getD t default).id) 1 (W.next-1)))== true) (.pointer (some ⟨qG,1,none⟩))),(153,cP ((f4 && (bA ((W.ah.getD t default).id) 1 (W.next-1)))== true) (J ((W.ah.getD t default).H))),(154,cP ((f4 && (bA ((W.ah.getD t default).id) 1 (W.next-1)))== true) (.pointer (some ⟨a6,3,none⟩))),(155,cP ((f4 && (bA ((W.ah.getD t default).id) 1 (W.next-1)))== true) (.slice a.B W.aT.length a.b)),(156,cP ((f4 && (bA ((W.ah.getD t default).id) 1 (W.next-1)))== true) (J (W.aT.length:Int))),(157,cP ((f4 && (bA ((W.ah.getD t default).id) 1 (W.next-1)))== true) (J ((W.aT.length:Int)-1))),(158,cP ((f4 && (bA ((W.ah.getD t default).id) 1 (W.next-1)))== true) (.bool (bA ((W.ah.getD t default).H) 0 ((W.aT.length:Int)-1)))),(159,.bool ((f4 && (bA ((W.ah.getD t default).id) 1 (W.next-1))) && (bA ((W.ah.getD t default).H) 0 ((W.aT.length:Int)-1)))),(160,.bool ((f4 && (bA ((W.ah.getD t default).id) 1 (W.next-1))) && (bA ((W.ah.getD t default).H) 0 ((W.aT.length:Int)-1)))),(161,cP (((f4 && (bA ((W.ah.getD t default).id) 1 (W.next-1))) && (bA ((W.ah.getD t default).H) 0 ((W.aT.length:Int)-1)))== true) (.pointer (bd a6))),(162,cP (((f4 && (bA ((W.ah.getD t default).id) 1 (W.next-1))) && (bA ((W.ah.getD t default).H) 0 ((W.aT.length:Int)-1)))== true) (.agg #[J W.am.O,J W.am.high,.slice a.P W.am.G.length a.p])),(163,cP (((f4 && (bA ((W.ah.getD t default).id) 1 (W.next-1))) && (bA ((W.ah.getD t default).H) 0 ((W.aT.length:Int)-1)))== true) (.pointer (some ⟨qG,3,none⟩))),(164,cP (((f4 && (bA ((W.ah.getD t default).id) 1 (W.next-1))) && (bA ((W.ah.getD t default).H) 0 ((W.aT.length:Int)-1)))== true) (.agg #[J ((W.ah.getD t default).an.x),J ((W.ah.getD t default).an.y)])),(165,cP (((f4 && (bA ((W.ah.getD t default).id) 1 (W.next-1))) && (bA ((W.ah.getD t default).H) 0 ((W.aT.length:Int)-1)))== true) (.bool (W.am.ground ((W.ah.getD t default).an)))),(166,.bool (((f4 && (bA ((W.ah.getD t default).id) 1 (W.next-1))) && (bA ((W.ah.getD t default).H) 0 ((W.aT.length:Int)-1))) && (W.am.ground ((W.ah.getD t default).an)))),(167,.bool (((f4 && (bA ((W.ah.getD t default).id) 1 (W.next-1))) && (bA ((W.ah.getD t default).H) 0 ((W.aT.length:Int)-1))) && (W.am.ground ((W.ah.getD t default).an)))),(168,cP ((((f4 && (bA ((W.ah.getD t default).id) 1 (W.next-1))) && (bA ((W.ah.getD t default).H) 0 ((W.aT.length:Int)-1))) && (W.am.ground ((W.ah.getD t default).an)))== true) (.pointer (some ⟨qG,5,none⟩))),(169,cP ((((f4 && (bA ((W.ah.getD t default).id) 1 (W.next-1))) && (bA ((W.ah.getD t default).H) 0 ((W.aT.length:Int)-1))) && (W.am.ground ((W.ah.getD t default).an)))== true) (J ((W.ah.getD t default).K))),(170,cP ((((f4 && (bA ((W.ah.getD t default).id) 1 (W.next-1))) && (bA ((W.ah.getD t default).H) 0 ((W.aT.length:Int)-1))) && (W.am.ground ((W.ah.getD t default).an)))== true) (.pointer (some ⟨qG,2,none⟩))),(171,cP ((((f4 && (bA ((W.ah.getD t default).id) 1 (W.next-1))) && (bA ((W.ah.getD t default).H) 0 ((W.aT.length:Int)-1))) && (W.am.ground ((W.ah.getD t default).an)))== true) (J ((W.ah.getD t default).O))),(172,cP ((((f4 && (bA ((W.ah.getD t default).id) 1 (W.next-1))) && (bA ((W.ah.getD t default).H) 0 ((W.aT.length:Int)-1))) && (W.am.ground ((W.ah.getD t default).an)))== true) (.agg #[J (ag.gT ((W.ah.getD t default).O)),J (E_ ((W.ah.getD t default).O)),J (pw ((W.ah.getD t default).O)),J (ag.kp ((W.ah.getD t default).O))])),(173,cP ((((f4 && (bA ((W.ah.getD t default).id) 1 (W.next-1))) && (bA ((W.ah.getD t default).H) 0 ((W.aT.length:Int)-1))) && (W.am.ground ((W.ah.getD t default).an)))== true) (J (ag.gT ((W.ah.getD t default).O)))),(174,cP ((((f4 && (bA ((W.ah.getD t default).id) 1 (W.next-1))) && (bA ((W.ah.getD t default).H) 0 ((W.aT.length:Int)-1))) && (W.am.ground ((W.ah.getD t default).an)))== true) (.bool (bA ((W.ah.getD t default).K) 1 (ag.gT ((W.ah.getD t default).O))))),(175,.bool ((((f4 && (bA ((W.ah.getD t default).id) 1 (W.next-1))) && (bA ((W.ah.getD t default).H) 0 ((W.aT.length:Int)-1))) && (W.am.ground ((W.ah.getD t default).an))) && (bA ((W.ah.getD t default).K) 1 (ag.gT ((W.ah.getD t default).O))))),(176,.bool ((((f4 && (bA ((W.ah.getD t default).id) 1 (W.next-1))) && (bA ((W.ah.getD t default).H) 0 ((W.aT.length:Int)-1))) && (W.am.ground ((W.ah.getD t default).an))) && (bA ((W.ah.getD t default).K) 1 (ag.gT ((W.ah.getD t default).O))))),(177,cP (((((f4 && (bA ((W.ah.getD t default).id) 1 (W.next-1))) && (bA ((W.ah.getD t default).H) 0 ((W.aT.length:Int)-1))) && (W.am.ground ((W.ah.getD t default).an))) && (bA ((W.ah.getD t default).K) 1 (ag.gT ((W.ah.getD t default).O))))== true) (.pointer (some ⟨qG,6,none⟩))),(178,cP (((((f4 && (bA ((W.ah.getD t default).id) 1 (W.next-1))) && (bA ((W.ah.getD t default).H) 0 ((W.aT.length:Int)-1))) && (W.am.ground ((W.ah.getD t default).an))) && (bA ((W.ah.getD t default).K) 1 (ag.gT ((W.ah.getD t default).O))))== true) (J ((W.ah.getD t default).load))),(179,cP (((((f4 && (bA ((W.ah.getD t default).id) 1 (W.next-1))) && (bA ((W.ah.getD t default).H) 0 ((W.aT.length:Int)-1))) && (W.am.ground ((W.ah.getD t default).an))) && (bA ((W.ah.getD t default).K) 1 (ag.gT ((W.ah.getD t default).O))))== true) (.pointer (some ⟨qG,2,none⟩))),(180,cP (((((f4 && (bA ((W.ah.getD t default).id) 1 (W.next-1))) && (bA ((W.ah.getD t default).H) 0 ((W.aT.length:Int)-1))) && (W.am.ground ((W.ah.getD t default).an))) && (bA ((W.ah.getD t default).K) 1 (ag.gT ((W.ah.getD t default).O))))== true) (J ((W.ah.getD t default).O))),(181,cP (((((f4 && (bA ((W.ah.getD t default).id) 1 (W.next-1))) && (bA ((W.ah.getD t default).H) 0 ((W.aT.length:Int)-1))) && (W.am.ground ((W.ah.getD t default).an))) && (bA ((W.ah.getD t default).K) 1 (ag.gT ((W.ah.getD t default).O))))== true) (J (2-((W.ah.getD t default).O)))),(182,cP (((((f4 && (bA ((W.ah.getD t default).id) 1 (W.next-1))) && (bA ((W.ah.getD t default).H) 0 ((W.aT.length:Int)-1))) && (W.am.ground ((W.ah.getD t default).an))) && (bA ((W.ah.getD t default).K) 1 (ag.gT ((W.ah.getD t default).O))))== true) (J (5*(2-((W.ah.getD t default).O))))),(183,cP (((((f4 && (bA ((W.ah.getD t default).id) 1 (W.next-1))) && (bA ((W.ah.getD t default).H) 0 ((W.aT.length:Int)-1))) && (W.am.ground ((W.ah.getD t default).an))) && (bA ((W.ah.getD t default).K) 1 (ag.gT ((W.ah.getD t default).O))))== true) (.bool (bA ((W.ah.getD t default).load) 0 (5*(2-((W.ah.getD t default).O)))))),(184,.bool (((((f4 && (bA ((W.ah.getD t default).id) 1 (W.next-1))) && (bA ((W.ah.getD t default).H) 0 ((W.aT.length:Int)-1))) && (W.am.ground ((W.ah.getD t default).an))) && (bA ((W.ah.getD t default).K) 1 (ag.gT ((W.ah.getD t default).O)))) && (bA ((W.ah.getD t default).load) 0 (5*(2-((W.ah.getD t default).O)))))),(185,.pointer (some ⟨a6,6,none⟩)),(186,.slice a.T W.ah.length a.t),(187,J (t:Int)),(188,.slice (W8 a.T t) ((W.ah.take t).length) a.t),(189,J ((((W.ah.take t).length:Nat):Int))),(190,J (q:Int))]/\bJ=(W.ah.take t).length-q/\Ext w aI/\aO aI a6 (ag.cells a W) 28 (0,0)/\aO aI qG [J ((W.ah.getD t default).id),J ((W.ah.getD t default).H),J ((W.ah.getD t default).O),J ((W.ah.getD t default).an.x),J ((W.ah.getD t default).an.y),J ((W.ah.getD t default).K),J ((W.ah.getD t default).load)] 68 (0,0)/\(q<=(W.ah.take t).length)/\(f5=true)) _ _ ⟨0,((((f4 && (bA ((W.ah.getD t default).id) 1 (W.next-1))) && (bA ((W.ah.getD t default).H) 0 ((W.aT.length:Int)-1))) && (W.am.ground ((W.ah.getD t default).an))) && (bA ((W.ah.getD t default).K) 1 (ag.gT ((W.ah.getD t default).O)))) && (bA ((W.ah.getD t default).load) 0 (5*(2-((W.ah.getD t default).O)))),Z,Z,yj,γ,hX,GE,by rw[am1,kj hid.1 hid.2,kj cA.H.1 (by have:=cA.H;omega),cA.ground,kj cA.K.1 cA.K.2,kj cA.load.1 (by rw[<-aK8 fJ];exact cA.load.2)];rfl⟩ (c' Z Z Z) ?_;rintro il aT3 Fo ⟨q,f5,rfl,rfl,o4,γ,hX,aW4,am2⟩;have aNt:=γ.lt;have a1R:=hX.lt;refine ar<|cF Z Z<|ax<|av<|?_;refine c7 Z (λ acU=>?_) (λ acU=>?_)
    .refine bf<|av<|bp<|ar<|κ (bD q underlying26 eg Z Z (((bk.T.be o4).pre t).Y (aL q (by first|(rw[baf,bax];omega)|omega))) Z GE)<|κ (aq Z (τ.aF.G gm (((bk.T.be o4).pre t).O (aL q (by first|(rw[baf,bax];omega)|omega))) (cg (l:=W.ah.take t) (u:=default) (by first|(rw[baf,bax];omega)|omega)) oI eg))<|cy s_ Z λ NU aVG pQ aZB SP=>?_;have qz:=Φ o4 pQ;refine ck Z Z SP Z eg Z Z λ Sa oi SP=>?_;have BC:=Ext.H qz oi bn;refine ax<|rg<|vm Z<|vm Z<|aR Z (λ hc=>aj r6 Z)<|aR Z (λ hc=>aq (gt hc Z) (SP.one aH Z))<|aR Z (λ hc=>aj r6 Z)<|?_;have hX:=(hX.O pQ).H oi aJ;refine aR Z (λ hc=>aq (gt hc Z) (hX.one aH Z))<|aR Z (λ hc=>blt (gt hc Z) (gt hc Z))<|κ (cQ Z Z Z Z)<|vm Z<|aR Z (λ hc=>aj ld Z)<|aR Z (λ hc=>aq (gt hc Z) (SP.Y [J (((W.ah.take t).getD q default).an.x),J (((W.ah.take t).getD q default).an.y)] bS bq Z))<|aR Z (λ hc=>aj ld Z)<|aR Z (λ hc=>aq (gt hc Z) (hX.Y [J ((W.ah.getD t default).an.x),J ((W.ah.getD t default).an.y)] bS bq Z))<|aR Z (λ hc=>Cb ah4 ah3 (p:=((W.ah.take t).getD q default).an) (q:=(W.ah.getD t default).an) (gt hc Z) (gt hc Z))<|κ (cQ Z Z Z Z)<|va Z<|nl<|bK<|cW Z Z Z<|?_;have γ:=(γ.O pQ).H oi aJ;exact cM ⟨q+1,(f5 && (decide (((W.ah.take t).getD q default).id<(W.ah.getD t default).id))) && (!decide (((W.ah.take t).getD q default).an=(W.ah.getD t default).an)),Z,Z,BC,γ,hX,GE,by obtain⟨Jf,rq⟩:=aPT aZ (j:=q) (i:=t) GE GE;rw[am2,baG Jf,baA rq];rfl⟩
    .refine cI<|cH<|cU<|cG<|bK<|cW Z Z Z<|?_;exact cM ⟨t+1,f5,Z,Z,o4,γ,GE,am2⟩
   .refine cI<|cH<|cU<|cG<|a7<|av<|aC Z<|κ (dj Z)<|ax<|?_;have aF6:(!f4)=false:=by rw[am1];rfl
    refine ef (by rw[<-aF6];rfl)<|bf<|ar<|bc Z<|b3 Z Z<|?_;exact⟨Z,oB⟩
theorem aN8(l:List (BitVec 64))(A:Option Addr)(c:Nat)(w:World)(b:kY.aF 8 w A c l):
  Calls prog 110 #[.slice A l.length c] w (λ e w'=>∃ m:BitVec 64,e=.returned (.int .u64 (U m))/\Ext w w'):=by
 have K:=b.M;have L:=b.2.2.1;refine bT (n:=48) func110 Z Z Z ?_;refine ar<|aG Z<|ar<|aG Z<|av<|aC Z<|κ (bY underlying98 Z)<|vm Z<|ax<|bp<|?_;refine di (λ o i h=>∃ k:Nat,∃ m:BitVec 64,i=[(0,.slice A l.length c),(2,.int .u64 0),(3,.int .u64 (U m)),(10,.slice A l.length c),(11,J (l.length:Int)),(12,J (k:Int))]/\o=l.length-k/\Ext w h/\(k<=l.length)) _ _ ⟨0,0#64,Z,Z,(Ext.U w),GE⟩ (c' Z Z Z) ?_;rintro B x G ⟨k,m,rfl,rfl,f,E⟩;refine ar<|cF Z Z<|ax<|av<|?_;refine c7 Z (λ r=>?_) (λ r=>?_)
 .refine bf<|av<|bp<|aC Z<|κ (bD k underlying98 akV Z Z ((b.be f).Y (aL k)) Z GE)<|κ (aq Z (τ.aF.H amL ((b.be f).O (aL k)) (cg (l:=l) (u:=0#64) GE) Z akW))<|va Z<|aG Z<|ar<|va Z<|aG Z<|av<|aC Z<|κ (bY underlying98 Z)<|?_;refine vm Z<|ax<|bp<|?_;refine di (λ o i h=>∃ j:Nat,∃ n:Int,∃ g:Bool,i=[(0,.slice A l.length c),(2,.int .u64 0),(3,.int .u64 (U m)),(4,J (k:Int)),(5,.int .u64 (U (l.getD k 0#64))),(6,J n),(7,.bool g),(10,.slice A l.length c),(11,J (l.length:Int)),(12,J (k:Int)),(13,.bool (decide ((k:Int)<(l.length:Int)))),(14,J (k:Int)),(15,.pointer (some ⟨fv A,j7 A+k*1,none⟩)),(16,.int .u64 (U (l.getD k 0#64))),(17,.slice A l.length c),(18,J (l.length:Int)),(19,J (j:Int))]/\o=l.length-j/\Ext w h/\(j<=l.length)/\(0<=n/\n<=(j:Int))) _ _ ⟨0,0,true,Z,Z,f,GE,GE⟩ (c' Z Z Z) ?_;rintro D F z ⟨j,n,g,rfl,rfl,d,C,H⟩;refine ar<|cF Z Z<|ax<|av<|?_;refine c7 Z (λ p=>?_) (λ p=>?_)
  .refine bf<|av<|bp<|aC Z<|κ (bD j underlying98 akV Z Z ((b.be d).Y (aL j)) Z GE)<|κ (aq Z (τ.aF.H amL ((b.be d).O (aL j)) (cg (l:=l) (u:=0#64) GE) Z akW))<|va Z<|aG Z<|aC Z<|vm Z<|κ (beq Z Z)<|ax<|?_;refine j1 Z (λ s=>?_) (λ s=>?_)
   .refine aC Z<|fb Z Z<|aG Z<|rg<|vm Z<|vm Z<|er Z Z<|er Z Z<|aR Z (λ a=>iV (gt a Z) (gt a Z))<|κ (cQ Z Z Z Z)<|va Z<|nl<|bK<|cW Z Z Z<|?_;exact oR _ _ ⟨j+1,n+1,g && (decide ((k:Int)<=(j:Int))),Z,Z,d,GE,GE⟩ GE (.cons Z (.cons Z (.cons Z (.cons Z (.cons Z (.cons (xE Z) (c' Z Z Z)))))))
   .refine dP<|bK<|cW Z Z Z<|?_;exact cM ⟨j+1,n,g,Z,Z,d,GE,GE⟩
  .refine cI<|cH<|cU<|cG<|a7<|aC Z<|vm Z<|er Z Z<|aR Z (λ a=>Cc (gt a Z) Z (by (try simp only[cb]at a);omega) (by (try simp only[cb]at a);omega))<|aR Z (λ a=>beq (gt a Z) Z)<|κ (cQ Z Z Z Z)<|ax<|?_;refine dB Z (λ v=>?_) (λ v=>?_)
   .refine rg<|vm Z<|vm Z<|cf abt Z (aeK (l.getD k 0#64) _) λ y t=>?_;have q:=Φ d t;refine κ (R1 Z Z (Tree.agy m ((Mark.mix (l.getD k 0#64)))))<|va Z<|nl<|bK<|cW Z Z Z<|?_;exact cM ⟨k+1,(m ^^^ ((Mark.mix (l.getD k 0#64)))),Z,Z,q,GE⟩
   .refine dP<|bK<|cW Z Z Z<|?_;exact cM ⟨k+1,m,Z,Z,d,GE⟩
 .refine cI<|cH<|cU<|cG<|a7<|aC Z<|bc Z<|b3 Z Z<|?_;exact⟨m,Z,f⟩
theorem asj(a:ag.cS)(W:ag)(w:World)(f:ag.fd w a W)(c:Good W):
  Calls prog 78 #[.agg ((ag.cells a W).toArray)] w (λ e w'=>∃ m:BitVec 64,e=.returned (.int .u64 (U m))/\Ext w w'):=by
 have tu:=c.dj;have JE:=c.l5;have uL:=c.sl;have EH:=c.zc;have p_:=c.next;have iy:=c.db;obtain⟨g1,g2,g3,g4,g5,g6⟩:=aE.hB c.am;have AG:=aE.M c.am;refine bT (n:=102) func78 Z Z Z ?_;refine cZ Z Z λ ch j aV cY b=>?_;have gp:=b.lt;refine aG Z<|ar<|κ (aj lA Z)<|κ (aj s8 Z)<|a1 Z b aH Z<|κ (aj lA Z)<|κ (aj I5 Z)<|a1 Z b aH Z<|κ (aj vQ Z)<|a1 Z b aH Z<|κ (aj yJ Z)<|a1 Z b aH Z<|cT (e:=3) (cs:=[J 1,J W.am.O,J W.am.high,J W.next,J W.db]) Z (λ _=>GT) Z λ dr b_ bh fl ak=>?_;have bo:=Φ aV bh;have j8:=ak.lt;refine κ (aj lA Z)<|κ (aj qK Z)<|?_;have b:=b.O bh;refine a1 Z b et Z<|?_;have Tp:=aO.K (R:=bN) (by_:=8) (B:=w.heap.size) (k:=[1,W.am.O,W.am.high,W.next,W.db]) ak [[J 1],[J W.am.O],[J W.am.high],[J W.next],[J W.db]] rfl (⟨⟨rfl,b7.2 GE⟩,⟨⟨rfl,b7.2 GE⟩,⟨⟨rfl,b7.2 GE⟩,⟨⟨rfl,b7.2 GE⟩,⟨⟨rfl,b7.2 GE⟩,trivial⟩⟩⟩⟩⟩) Kx Kx GP GE;have mg:∀ q∈τ.ai (bd b_),b_<=q:=λ q I=>bbz (bah.1 I).symm;refine ap axL τ.O Tp (f.P.be bo) Z Z (by simp;omega) (by simp;omega) bo.size Z λ nY a2 a3 xJ LC a4 aD=>?_;have:=xJ.size;have fF:=Ext.H bo xJ (λ q I=>(Tp.lt q I).1);refine cf Uz Z (Wh ([1,W.am.O,W.am.high,W.next,W.db]++W.am.G) _ _ _ LC.bv) λ vk hN=>?_;have:=hN.size;have gw:=Φ fF hN;refine aG Z<|aC Z<|cT (e:=129) (cs:=[.int .u64 (U (ll ([1,W.am.O,W.am.high,W.next,W.db]++W.am.G)))]) Z (λ _=>GT) Z λ pM Gr fM Q9 o6=>?_;have iE:=Φ gw fM;refine aG Z<|av<|ar<|κ (aj lY Z)<|?_;have ah:∀ q∈τ.ai (bd b_),q=j->False:=λ q I ae=>by (have:=mg q I;omega)
 have b:=(b.H xJ (λ I=>ah _ I rfl)).O (Φ hN fM);refine a1 Z b lZ Z<|κ (bY underlying25 Z)<|vm Z<|ax<|bp<|?_;have ZE:=aO.K (R:=kY) (by_:=8) (B:=w.heap.size) (k:=[(ll ([1,W.am.O,W.am.high,W.next,W.db]++W.am.G))]) o6 [[.int .u64 (U (ll ([1,W.am.O,W.am.high,W.next,W.db]++W.am.G)))]] rfl (⟨⟨rfl,trivial⟩,trivial⟩) Kx Kx GP GE;have aa:∀ q∈τ.ai (bd Gr),Gr<=q:=λ q I=>bbz (bah.1 I).symm;refine di (λ D C d=>∃ i:Nat,∃ r:List (BitVec 64),∃ A:Option Addr,∃ c1:Nat,C=[(1,.pointer (bd j)),(2,.int .u64 0),(4,.slice A r.length c1),(30,.slice a.B W.aT.length a.b),(31,J (W.aT.length:Int)),(32,J (i:Int))]/\D=W.aT.length-i/\Ext w d/\aO d j (ag.cells a W) 28 (0,0)/\kY.aM 129 8 d w.heap.size (τ.ai A) A c1 (r)/\(i<=W.aT.length)/\(r.length<=i+1)/\(∀ q∈τ.ai A,q=j->False)) _ _ ⟨0,[(ll ([1,W.am.O,W.am.high,W.next,W.db]++W.am.G))],some ⟨Gr,0,none⟩,1,Z,Z,iE,b,ZE,GE,by first|(simp;done)|(simp;omega)|omega,(λ q I ae=>by (have:=aa q I;omega))⟩ (c' Z Z Z) ?_;rintro nW bz rJ ⟨i,r,A,c1,rfl,rfl,P,b,v,dx,Vd,Y⟩;have aX:=b.lt;have RX:=b4 v.lt;refine ar<|cF Z Z<|ax<|av<|?_;refine c7 Z (λ Ay=>?_) (λ Ay=>?_)
 .have ij:=c.bl i _ (cg (u:=0) GE);have px:=aaf c i;unfold tA at px;refine bf<|av<|bp<|aC Z<|κ (bD i underlying25 bq Z Z ((f.B.be P).Y (aL i)) Z GE)<|κ (aq Z (τ.aF.G ng ((f.B.be P).O (aL i)) (cg (l:=W.aT) (u:=default) GE) bS bq))<|cy pk Z λ xZ vL jz Q_ K=>?_;have jX:=Φ P jz;have Kj:=K.lt;refine va Z<|ck Z Z K Z bq Z Z λ qq V K=>?_;have:=V.size;have hQ:=Ext.H jX V bn;refine ax<|?_;refine c_ [(3,0),(5,0),(7,0),(10,0),(11,2),(12,0),(13,2),(14,3)] [0,1,2,3,4,5,6,7,8,9,10,11,12,13,14,15] ?_;refine bt Z Z<|bt Z Z<|aA Z (λ _=>aj fj Z)<|cr Z Z K aH Z<|aA Z (λ _=>aj fk Z)<|cr Z Z K aH Z<|aA Z (λ _=>aj oJ Z)<|?_;have b:=(b.O jz).H V aJ;refine cr Z Z b et Z<|bt Z Z<|aA Z (λ _=>bD i underlying22 cO Z Z ((f.S.be hQ).Y (aL i)) Z GE)<|dE Z (λ _ x=>aq Z (τ.aF.H ew ((f.S.be (Φ hQ x)).O (aL i)) (cg (l:=W.bl) (u:=0) GE) Z aH))<|fO Z Z Z λ NQ G Q E=>cT (e:=3) (cs:=[J 2,J (i:Int),J ((W.aT.getD i default).x),J ((W.aT.getD i default).y),J (W.bl.getD i 0)]) Z (λ _=>GT) Z λ C9 Ca T We ie=>E _ _ ⟨Φ G T,?_⟩;have:=G.size;have tS:=Φ hQ G;have mU:=Φ tS T;have a6:=ie.lt;refine nQ Z Z Uz Z (λ _ x=>Wh ([2,(i:Int),(W.aT.getD i default).x,(W.aT.getD i default).y,W.bl.getD i 0]) _ _ _ ((aO.M (R:=bN) (by_:=8) (k:=[2,(i:Int),(W.aT.getD i default).x,(W.aT.getD i default).y,W.bl.getD i 0]) ie [[J 2],[J (i:Int)],[J ((W.aT.getD i default).x)],[J ((W.aT.getD i default).y)],[J (W.bl.getD i 0)]] Z (⟨⟨Z,b7.2 GE⟩,⟨⟨Z,b7.2 GE⟩,⟨⟨Z,b7.2 GE⟩,⟨⟨Z,b7.2 GE⟩,⟨⟨Z,b7.2 GE⟩,trivial⟩⟩⟩⟩⟩) Kx Kx).be x)) Z<|fO Z Z Z λ R8 F Q E=>cT (e:=129) (cs:=[.int .u64 (U (ll ([2,(i:Int),(W.aT.getD i default).x,(W.aT.getD i default).y,W.bl.getD i 0])))]) Z (λ _=>GT) Z λ NT bE S aP Oi=>E _ _ ⟨Φ F S,?_⟩;have:=F.size;have yk:=Φ mU F;have qy:=Φ yk S;have aY:=Oi.lt;have v:=((v.O jz).H V (bV RX)).O (Φ G (Φ T (Φ F S)));refine en Z Z Z λ NV p Q E=>ap ZP τ.O (v.O p) ((aO.G (R:=kY) (by_:=8) (q:=(ll ([2,(i:Int),(W.aT.getD i default).x,(W.aT.getD i default).y,W.bl.getD i 0]))) Oi ⟨Z,trivial⟩ GP).be p) Z Z (by simp;omega) (by simp;omega) (by have:=p.size;omega) Z λ KK YR af oQ IG au aT=>E _ _ ?_;have:=p.size;have pU:=Φ qy p;have qA:=Ext.H pU oQ (λ q I=>bay GE ((v.O p).lt q I).1);refine aA Z (λ _=>fh Z)<|fn λ N0 lL=>?_;have wX:=Φ qA lL;refine bK<|cW Z Z Z<|?_;have b:=((b.O (Φ G (Φ T (Φ F (Φ S p))))).H oQ (λ I=>Y _ I rfl)).O lL;have IG:=IG.O lL;exact cM ⟨i+1,r++ [(ll ([2,(i:Int),(W.aT.getD i default).x,(W.aT.getD i default).y,W.bl.getD i 0]))],YR,af,Z,Z,wX,b,IG,GE,by simp;omega,(eh au Y)⟩
 .refine cI<|cH<|cU<|cG<|a7<|av<|ar<|κ (aj rZ Z)<|a1 Z b et Z<|κ (bY underlying22 Z)<|vm Z<|ax<|bp<|?_;refine di (λ D C d=>∃ m:Nat,∃ h:List (BitVec 64),∃ o:Option Addr,∃ c2:Nat,C=[(1,.pointer (bd j)),(2,.int .u64 0),(4,.slice o h.length c2),(54,.slice a.M W.bE.length a.m),(55,J (W.bE.length:Int)),(56,J (m:Int))]/\D=W.bE.length-m/\Ext w d/\aO d j (ag.cells a W) 28 (0,0)/\kY.aM 129 8 d w.heap.size (τ.ai o) o c2 (h)/\(m<=W.bE.length)/\(h.length<=m+9)/\(∀ q∈τ.ai o,q=j->False)) _ _ ⟨0,r,A,c1,Z,Z,P,b,v,GE,by first|(simp;done)|(simp;omega)|omega,Y⟩ (c' Z Z Z) ?_;rintro uP bw KL ⟨m,h,o,c2,rfl,rfl,H,b,y,bQ,PW,Co⟩;have aU:=b.lt;refine ar<|cF Z Z<|ax<|av<|?_;refine c7 Z (λ an=>?_) (λ an=>?_)
  .have Hg:=c.bE m _ (cg (u:=0) GE);refine bf<|av<|bp<|aC Z<|κ (bD m underlying22 cO Z Z ((f.M.be H).Y (aL m)) Z GE)<|κ (aq Z (τ.aF.H ew ((f.M.be H).O (aL m)) (cg (l:=W.bE) (u:=0) GE) Z aH))<|va Z<|aG Z<|aC Z<|κ (gy Z Z)<|ax<|?_;refine c7 Z (λ Eu=>?_) (λ Eu=>?_)
   .refine rg<|vm Z<|vm Z<|vm Z<|cT (e:=3) (cs:=[J 3,J (m:Int),J (W.bE.getD m 0)]) Z (λ _=>GT) Z λ R5 bi l7 bj FN=>?_;have zD:=Φ H l7;have bl:=FN.lt;refine cf Uz Z (Wh ([3,(m:Int),W.bE.getD m 0]) _ _ _ (aO.M (R:=bN) (by_:=8) (k:=[3,(m:Int),W.bE.getD m 0]) FN [[J 3],[J (m:Int)],[J (W.bE.getD m 0)]] Z (⟨⟨Z,b7.2 GE⟩,⟨⟨Z,b7.2 GE⟩,⟨⟨Z,b7.2 GE⟩,trivial⟩⟩⟩) Kx Kx)) λ a8 M=>?_;have:=M.size;have K0:=Φ zD M;refine cT (e:=129) (cs:=[.int .u64 (U (ll ([3,(m:Int),W.bE.getD m 0])))]) Z (λ _=>GT) Z λ aZ bA N aK Od=>?_;have:=N.size;have az:=Φ K0 N;have bm:=Od.lt;have y:=y.O (Φ l7 (Φ M N));refine ap ZP τ.O y (aO.G (R:=kY) (by_:=8) (q:=(ll ([3,(m:Int),W.bE.getD m 0]))) Od ⟨Z,trivial⟩ GP) Z Z (by simp;omega) (by simp;omega) GE Z λ a9 YD ai Rh Zx am aR=>?_;have Ii:=Ext.H az Rh (λ q I=>bay GE (y.lt q I).1);refine va Z<|nl<|bK<|cW Z Z Z<|?_;have b:=(b.O (Φ l7 (Φ M N))).H Rh (λ I=>Co _ I rfl);exact cM ⟨m+1,h++ [(ll ([3,(m:Int),W.bE.getD m 0]))],YD,ai,Z,Z,Ii,b,Zx,GE,by simp;omega,(eh am Co)⟩
   .refine dP<|bK<|cW Z Z Z<|?_;exact cM ⟨m+1,h,o,c2,Z,Z,H,b,y,GE,GE,Co⟩
  .refine cI<|cH<|cU<|cG<|a7<|av<|ar<|κ (aj fC Z)<|a1 Z b gR Z<|κ (bY underlying26 Z)<|vm Z<|ax<|bp<|?_;refine di (λ D C d=>∃ t:Nat,∃ s:List (BitVec 64),∃ O:Option Addr,∃ c3:Nat,C=[(2,.int .u64 0),(4,.slice O s.length c3),(72,.slice a.T W.ah.length a.t),(73,J (W.ah.length:Int)),(74,J (t:Int))]/\D=W.ah.length-t/\Ext w d/\kY.aM 129 8 d w.heap.size (τ.ai O) O c3 (s)/\(t<=W.ah.length)/\(s.length<=t+1609)) _ _ ⟨0,h,o,c2,Z,Z,H,y,GE,by first|(simp;done)|(simp;omega)|omega⟩ (c' Z Z Z) ?_;rintro aQ bx ba ⟨t,s,O,c3,rfl,rfl,L,z,eD,Ve⟩;have:=L.size;have ay:=b4 z.lt;refine ar<|cF Z Z<|ax<|av<|?_;refine c7 Z (λ ao=>?_) (λ ao=>?_)
   .obtain⟨kn,jh,jx,jQ,ko,oS,wy⟩:=HQ f.T t;have kn:=b7.1 kn;have jh:=b7.1 jh;have jx:=b7.1 jx;have jQ:=b7.1 jQ;have ko:=b7.1 ko;have oS:=b7.1 oS;have wy:=b7.1 wy;refine bf<|av<|bp<|ar<|κ (bD t underlying26 eg Z Z ((f.T.be L).Y (aL t)) Z GE)<|κ (aq Z (τ.aF.G gm ((f.T.be L).O (aL t)) (cg (l:=W.ah) (u:=default) GE) oI eg))<|cy s_ Z λ bv bB tQ aM g=>?_;have Sx:=Φ L tQ;have aW:=g.lt;refine ck Z Z g Z eg Z Z λ bb X g=>?_;have:=X.size;have Ik:=Ext.H Sx X bn;refine ax<|rg<|vm Z<|κ (aj r6 Z)<|a1 Z g aH Z<|κ (aj ur Z)<|a1 Z g aH Z<|κ (aj Ar Z)<|a1 Z g aH Z<|κ (aj ld Z)<|κ (aj fj Z)<|a1 Z g aH Z<|κ (aj ld Z)<|κ (aj fk Z)<|a1 Z g aH Z<|κ (aj Ec Z)<|a1 Z g aH Z<|κ (aj r3 Z)<|a1 Z g aH Z<|cT (e:=3) (cs:=[J 4,J ((W.ah.getD t default).id),J ((W.ah.getD t default).H),J ((W.ah.getD t default).O),J ((W.ah.getD t default).an.x),J ((W.ah.getD t default).an.y),J ((W.ah.getD t default).K),J ((W.ah.getD t default).load)]) Z (λ _=>GT) Z λ be bg vq bk FO=>?_;have K3:=Φ Ik vq;have br:=FO.lt;refine cf Uz Z (Wh ([4,(W.ah.getD t default).id,(W.ah.getD t default).H,(W.ah.getD t default).O,(W.ah.getD t default).an.x,(W.ah.getD t default).an.y,(W.ah.getD t default).K,(W.ah.getD t default).load]) _ _ _ (aO.M (R:=bN) (by_:=8) (k:=[4,(W.ah.getD t default).id,(W.ah.getD t default).H,(W.ah.getD t default).O,(W.ah.getD t default).an.x,(W.ah.getD t default).an.y,(W.ah.getD t default).K,(W.ah.getD t default).load]) FO [[J 4],[J ((W.ah.getD t default).id)],[J ((W.ah.getD t default).H)],[J ((W.ah.getD t default).O)],[J ((W.ah.getD t default).an.x)],[J ((W.ah.getD t default).an.y)],[J ((W.ah.getD t default).K)],[J ((W.ah.getD t default).load)]] Z (⟨⟨Z,b7.2 GE⟩,⟨⟨Z,b7.2 GE⟩,⟨⟨Z,b7.2 GE⟩,⟨⟨Z,b7.2 GE⟩,⟨⟨Z,b7.2 GE⟩,⟨⟨Z,b7.2 GE⟩,⟨⟨Z,b7.2 GE⟩,⟨⟨Z,b7.2 GE⟩,trivial⟩⟩⟩⟩⟩⟩⟩⟩) Kx Kx)) λ bs KT=>?_;have:=KT.size;have SB:=Φ K3 KT;refine cT (e:=129) (cs:=[.int .u64 (U (ll ([4,(W.ah.getD t default).id,(W.ah.getD t default).H,(W.ah.getD t default).O,(W.ah.getD t default).an.x,(W.ah.getD t default).an.y,(W.ah.getD t default).K,(W.ah.getD t default).load])))]) Z (λ _=>GT) Z λ bu bC zy aN YV=>?_;have:=zy.size;have K4:=Φ SB zy;have z:=((z.O tQ).H X (bV ay)).O (Φ vq (Φ KT zy));refine ap ZP τ.O z (aO.G (R:=kY) (by_:=8) (q:=(ll ([4,(W.ah.getD t default).id,(W.ah.getD t default).H,(W.ah.getD t default).O,(W.ah.getD t default).an.x,(W.ah.getD t default).an.y,(W.ah.getD t default).K,(W.ah.getD t default).load]))) YV ⟨Z,trivial⟩ GP) Z Z (by simp;omega) (by simp;omega) GE Z λ a0 YG al aw Zz aI aS=>?_;have aB:=Ext.H K4 aw (λ q I=>bay GE (z.lt q I).1);refine va Z<|nl<|bK<|cW Z Z Z<|?_;exact cM ⟨t+1,s++ [(ll ([4,(W.ah.getD t default).id,(W.ah.getD t default).H,(W.ah.getD t default).O,(W.ah.getD t default).an.x,(W.ah.getD t default).an.y,(W.ah.getD t default).K,(W.ah.getD t default).load]))],YG,al,Z,Z,aB,Zz,GE,by simp;omega⟩
   .refine cI<|cH<|cU<|cG<|a7<|aC Z<|ca aDp Z Z ((aN8 s _ _ _ z.bv).mono ?_);rintro e aF ⟨a5,rfl,ab⟩;refine cR ?_;have ad:=Φ L ab;refine bc Z<|b3 Z Z<|?_;exact⟨_,Z,ad⟩
end
section
def axS:dU prog kY 98 129 8:=dU.O (z:=.int .u64 0) (k:=1) underlying98 V9 rfl rfl GP (λ j u h=>Xn j u h)
open fg
def Good.tick{W:ag}(h:Good W)(a:0<=W.db+1/\W.db+1<=1000000):Good {W with db:=W.db+1}:=⟨h.am,h.l5,h.dj,h.sl,h.aT,h.bl,h.zc,h.bE,h.ah,h.ids,h.kJ,h.next,a⟩
def ag.fd.tick{w:World}{a:ag.cS}{W:ag}(h:ag.fd w a W)(b:gg (W.db+1)):ag.fd w a {W with db:=W.db+1}:=⟨h.P,h.B,h.S,h.M,h.T,h.nums.1,h.nums.2.1,h.nums.2.2.1,b⟩
theorem asb:∀(L:List (List aS)) (W:ag),W.db<=1000000->lI W L=0->W.db+(L.length:Int)<=1000000/\∀ l∈L,iN l=0
 | [],W,h,_=>⟨by simp;exact h,λ l d=>by simp at d⟩
 | l::r,W,h,he=>by
  rw[lI]at he;have a:ji W l=0:=bbt λ a=>by rw[bap a]at he;exact a he
  rw[ban (by simpa using a)]at he;obtain⟨c,f,_⟩:=NH a;obtain⟨_,g,_⟩:=aP1 a;obtain⟨i,e⟩:=asb r (oU W l) GE he;refine⟨by rw[baj];omega,λ m b=>?_⟩;rcases baB.1 b with rfl|b
  .exact(NA c).1
  .exact e m b
theorem aOj(a:ag.cS)(W:ag)(A:Option Addr)(c:Nat)(l:List aS)(w:World)(f:s4 w a W)(aZ:Good W)(az:aS.ce.aF 48 w A c l)(he:iN l=0)(hn:W.db<1000000):
  Calls prog 79 #[.agg ((ag.cells a W).toArray),.slice A l.length c] w (λ e w'=>∃(a':ag.cS) (V:ag) (C:Option Addr) (n d:Nat) (SS:Option Addr) (tG d2:Nat) (SU:Option Addr) (qi d3:Nat),e=.returned (.tuple #[.agg (ag.cells a' V).toArray,.agg #[.slice C n d,.slice SS tG d2,.slice SU qi d3],J 0])/\ag.fd w' a' V/\Good V/\V.db=W.db+1/\(∀ q∈bF.G a',q∈bF.G a\/(w.heap.size<=q/\q<w'.heap.size))/\Ext w w'):=by
 have t:=f.lt;have iy:=aZ.db;refine bT (n:=66) func79 Z Z Z ?_;refine cZ Z Z λ ch a6 aV cY b=>?_;have gp:=b.lt;refine cy nO Z λ dr b_ bh fl y=>?_;have bo:=Φ aV bh;have j8:=y.lt;refine cy GM Z λ fx e_ cm oM u=>?_;have cj:=Φ bo cm;have wF:=u.lt;refine aG Z<|aC Z<|cf aDq Z (aOa l _ _ _ (az.be cj) he) λ mn S=>?_;have:=S.size;have eM:=Φ cj S;refine aG Z<|av<|aC Z<|κ (beq Z Z)<|ax<|fB Z<|rg<|?_;have b:=b.O (Φ bh (Φ cm S));refine κ (aq Z (b.all cD bP))<|?_;have f:=f.O (Φ aV (Φ bh (Φ cm S)));refine cf akX Z (asl a W _ f.bv aZ) λ ow R=>?_;have:=R.size;have fP:=Φ eM R;refine aG Z<|av<|aC Z<|κ (beq Z Z)<|vm Z<|iC Z Z Z<|κ (aj yJ Z)<|iC Z Z Z<|?_;have b:=b.O R;refine a1 Z b aH Z<|iC Z Z Z<|κ (beq Z Z)<|κ (pH Z Z)<|ax<|?_;have Ev:(W.db == 1000000)=false:=by rw[bbG];omega
 refine ef (by rw[<-Ev];rfl)<|bf<|av<|aC Z<|cV Z Z<|ax<|ef Z<|bf<|av<|?_;refine c_ [(1,0),(2,2),(4,0),(5,2),(7,0),(8,2)] [0,1,3,4,6,7,2,5,8,9,10,11] ?_;refine bt Z Z<|dE Z (λ _ x=>aq Z ((b.O x).all cD bP))<|bt Z Z<|dE Z (λ _ x=>aq Z ((b.O x).all cD bP))<|bt Z Z<|dE Z (λ _ x=>aq Z ((b.O x).all cD bP))<|?_;have f:=f.O R;refine fO Z Z Z λ rI m Q o=>ca aDr Z Z ((aNG a W l _ _ _ (f.O m).bv (az.be (Φ fP m))).mono ?_);rintro e Bo ⟨bs,bJ,a2,rfl,Zt,K⟩;refine⟨_,Z,o _ _ ⟨Φ m K,?_⟩⟩;have:=m.size;have ic:=Φ fP m;have:=K.size;have mR:=Φ ic K;have f:=f.O (Φ m K);refine fO Z Z Z λ xY j Q o=>ca aDs Z Z ((aNW a W l _ _ _ (f.O j).bv (az.be (Φ mR j))).mono ?_);rintro e rJ ⟨bu,bK,a3,rfl,Y,B⟩;refine⟨_,Z,o _ _ ⟨Φ j B,?_⟩⟩;have:=j.size;have n5:=Φ mR j;have:=B.size;have gU:=Φ n5 B;have tN:=b4 Y.lt;have tF:=dZ Y.lt;have f:=f.O (Φ j B);refine fO Z Z Z λ zr i Q o=>ca aDt Z Z ((aNM a W l _ _ _ (f.O i).bv (az.be (Φ gU i))).mono ?_);rintro e Bq ⟨bv,bN,a4,rfl,OT,p⟩;refine⟨_,Z,o _ _ ⟨Φ i p,?_⟩⟩;have:=i.size;have nB:=Φ gU i;have:=p.size;have mT:=Φ nB p;have aP:=b4 OT.lt;have aO:=dZ OT.lt;refine aA Z (λ _=>fh Z)<|aA Z (λ _=>fh Z)<|aA Z (λ _=>fh Z)<|fn λ X7 r=>?_;have:=r.size;have FF:=Φ mT r;refine a7<|ar<|cy GM Z λ NP bw D bC g=>?_;have yi:=Φ FF D;have bp:=g.lt;refine ax<|ar<|?_;have b:=b.O (Φ m (Φ K (Φ j (Φ B (Φ i (Φ p (Φ r D)))))));refine κ (aq Z (b.all cD bP))<|vm Z<|?_;have f:=f.O (Φ i (Φ p (Φ r D)));have ae:=f;have Zt:=Zt.O (Φ j (Φ B (Φ i (Φ p (Φ r D)))));refine ca aDu Z Z ((aOh a W _ _ a2 _ ae.bv aZ Zt.bv).mono ?_);rintro e X9 ⟨aQ,bg,ba,aX,bk,rfl,bc,aT,bz,h,s⟩;refine cR ?_;have:=s.size;have yj:=Φ yi s;have aa:=ae.next bc s h;refine vm Z<|bL Z Z<|bL Z Z<|?_;have b:=b.O s;refine st Z Z b Z bP Z Z Z λ Fo F b=>?_;have:=F.size;have o4:=Ext.H yj F bn;refine κ (aj akA Z)<|?_;have g:=(g.O s).H F aJ;refine ep Z Z g Z td Z Z λ Fp G g=>?_;have:=G.size;have pS:=Ext.H o4 G bn;refine ax<|ar<|?_;have b:=b.H G aJ;refine κ (aq Z (b.all cD bP))<|vm Z<|?_;have aa:=(aa.H F (bM λ q I v=>baC (h q I) (λ aN=>by (have:=t q aN;omega)) (λ aN=>GE))).H G (bM λ q I v=>baC (h q I) (λ aI=>by (have:=t q aI;omega)) (λ aI=>GE));have af:=aa;have Y:=((Y.O (Φ i (Φ p (Φ r (Φ D s))))).H F (bx tF)).H G (bV tN);refine ca aDv Z Z ((aN7 aQ bg _ _ a3 _ af.bv aT Y.bv).mono ?_);rintro e NV ⟨aR,bi,bb,aY,bl,rfl,bd,aU,bA,k,E⟩;refine cR ?_;have:=E.size;have pU:=Φ pS E;have ab:=af.next bd E k;refine vm Z<|bL Z Z<|bL Z Z<|?_;have b:=b.O E;refine st Z Z b Z bP Z Z Z λ Sa M b=>?_;have:=M.size;have BC:=Ext.H pU M bn;refine κ (aj akB Z)<|?_;have g:=(g.O E).H M aJ;refine ep Z Z g Z td Z Z λ Sb L g=>?_;have:=L.size;have BD:=Ext.H BC L bn;refine ax<|ar<|?_;have b:=b.H L aJ;refine κ (aq Z (b.all cD bP))<|vm Z<|?_;have ab:=(ab.H M (bM λ q I v=>baC (k q I) (λ Q7=>by (exact baC (h q Q7) (λ aK=>by (have:=t q aK;omega)) (λ aK=>GE))) (λ Q7=>GE))).H L (bM λ q I v=>baC (k q I) (λ aL=>by (exact baC (h q aL) (λ aM=>by (have:=t q aM;omega)) (λ aM=>GE))) (λ aL=>GE));have ah:=ab;have OT:=(((((OT.O (Φ r (Φ D s))).H F (bx aO)).H G (bV aP)).O E).H M (bx aO)).H L (bV aP);refine ca aDw Z Z ((aNL aR bi _ _ a4 _ ah aU OT.bv).mono ?_);rintro e Yb ⟨bj,ZV,a9,a0,bm,rfl,be,aW,bB,H,N⟩;refine cR ?_;have:=N.size;have FL:=Φ BD N;have ad:=ah.next be N H;refine vm Z<|bL Z Z<|bL Z Z<|?_;have b:=b.O N;refine st Z Z b Z bP Z Z Z λ bE O b=>?_;have:=O.size;have N8:=Ext.H FL O bn;refine κ (aj akC Z)<|?_;have g:=(g.O N).H O aJ;refine ep Z Z g Z akD Z Z λ bG T g=>?_;have:=T.size;have Ig:=Ext.H N8 T bn;refine ax<|ar<|κ (aj yJ Z)<|?_;have b:=b.H T aJ;refine a1 Z b aH Z<|fb Z Z<|κ (aj yJ Z)<|ep Z Z b Z cO Z Z λ bH P b=>?_;have:=P.size;have Ss:=Ext.H Ig P bn;refine ax<|av<|?_;refine RB [b_] [(0,0),(1,0),(2,2),(3,3)] [0,1,2,3,4] GT GT ?_;refine yQ Z Z (λ _ x=>aq Z ((b.H x aJ).all cD bP)) Z<|?_;have g:=g.H P aJ;refine yQ Z Z (λ _ x=>aq Z ((g.H x aJ).all L3 yL)) Z<|?_;have y:=(((((((((y.O (Φ cm (Φ S (Φ R (Φ m (Φ K (Φ j (Φ B (Φ i (Φ p (Φ r (Φ D s)))))))))))).H F aJ).H G aJ).O E).H M aJ).H L aJ).O N).H O aJ).H T aJ).H P aJ;refine GV Z Z Z λ bI U Q o=>ck Z Z (y.O U) Z bP Z Z λ bD X y=>o _ _ ⟨(Mod.O U).trans X,?_⟩;have:=U.size;have Su:=Φ Ss U;have:=X.size;have K0:=Ext.H Su X bn;have u:=(((((((((((u.O (Φ S (Φ R (Φ m (Φ K (Φ j (Φ B (Φ i (Φ p (Φ r (Φ D s))))))))))).H F aJ).H G aJ).O E).H M aJ).H L aJ).O N).H O aJ).H T aJ).H P aJ).O U).H X aJ;refine UN Z Z Z λ X3 yb Q o=>ck Z Z (u.O yb) Z yL Z Z λ bq AW u=>o _ _ ?_;have:=yb.size;have wU:=Φ K0 yb;have:=AW.size;have a5:=Ext.H wU AW bn;refine kR Z Z (λ _=>fh Z) Z<|PF λ br zu=>?_;have:=zu.size;have a8:=Φ a5 zu;refine a7<|rt<|?_;have y:=((y.O yb).H AW aJ).O zu;have u:=u.O zu;refine cJ (.cell Z (y.all cD bP) (.cell Z (u.all L3 yL) (.tmp Z .nil)))<|?_;have ad:=(((((((ad.H O (bM λ q I v=>baC (H q I) (λ aw=>by (exact baC (k q aw) (λ ay=>by (exact baC (h q ay) (λ aB=>by (have:=t q aB;omega)) (λ aB=>GE))) (λ ay=>GE))) (λ aw=>GE))).H T (bM λ q I v=>baC (H q I) (λ aD=>by (exact baC (k q aD) (λ aE=>by (exact baC (h q aE) (λ aF=>by (have:=t q aF;omega)) (λ aF=>GE))) (λ aE=>GE))) (λ aD=>GE))).H P (bM λ q I v=>baC (H q I) (λ ai=>by (exact baC (k q ai) (λ ak=>by (exact baC (h q ak) (λ Hq=>by (have:=t q Hq;omega)) (λ Hq=>GE))) (λ ak=>GE))) (λ ai=>GE))).O U).H X (bM λ q I v=>baC (H q I) (λ al=>by (exact baC (k q al) (λ am=>by (exact baC (h q am) (λ an=>by (have:=t q an;omega)) (λ an=>GE))) (λ am=>GE))) (λ al=>GE))).O yb).H AW (bM λ q I v=>baC (H q I) (λ ao=>by (exact baC (k q ao) (λ ap=>by (exact baC (h q ap) (λ au=>by (have:=t q au;omega)) (λ au=>GE))) (λ ap=>GE))) (λ ao=>GE))).O zu;exact⟨bj,{ZV with db:=ZV.db+1},ba,aX,bk,bb,aY,bl,a9,a0,bm,Z,ad.bv.tick (b7.2 GE),aW.tick GE,(by show ZV.db+1=_;omega),(λ q I=>(λ z=>(H q z).elim (λ z=>(k q z).elim (λ z=>(h q z).elim .inl (λ z=> .inr GE)) (λ z=> .inr GE)) (λ z=> .inr GE)) I),a8⟩
theorem aOk(a:ag.cS)(W:ag)(A:Option Addr)(c:Nat)(T:List gV)(L:List (List aS))(w:World)(i:s4 w a W)(Q:Good W)(cc:nw.aF 24 w A c T)(fG:lU w T L)(ay:∀ l∈L,iN l=0)(a5:L.length<=200)(a2:W.db+(L.length:Int)<=1000000):
  Calls prog 51 #[.agg ((ag.cells a W).toArray),.slice A T.length c] w (λ e w'=>∃ a' V C n d,e=.returned (.tuple #[.agg (ag.cells a' V).toArray,.slice C n d,J 0])/\Ext w w'):=by
 have tL:=i.lt;have aW:=fG.1;refine bT (n:=50) func51 Z Z Z ?_;refine cZ Z Z λ ch H aV cY j=>?_;have gp:=j.lt;refine cy nO Z λ dr K bh fl f=>?_;have bo:=Φ aV bh;have j8:=f.lt;refine va Z<|aG Z<|av<|aC Z<|κ (bY underlying29 Z)<|κ (gy Z Z)<|ax<|?_;have hk:(decide (200<(T.length:Int)))=false:=by exact baA GE
 refine ef (by rw[<-hk];rfl)<|bf<|av<|ar<|?_;have j:=j.O bh;refine κ (aq Z (j.all cD bP))<|?_;have i:=i.O (Φ aV bh);refine cf akX Z (asl a W _ i.bv Q) λ rH z=>?_;have:=z.size;have ib:=Φ bo z;refine aG Z<|aC Z<|cV Z Z<|ax<|ef Z<|bf<|ar<|?_;have j:=j.O z;refine κ (aq Z (j.all cD bP))<|?_;have i:=i.O z;refine ca akY Z Z ((asj a W _ i.bv Q).mono ?_);rintro e wL ⟨G,rfl,M⟩;refine cR ?_;have:=M.size;have jW:=Φ ib M;refine cT (e:=129) (cs:=[.int .u64 (U G)]) Z (λ _=>GT) Z λ zp P h' aK Lf=>?_;have ka:=Φ jW h';refine aG Z<|av<|aC Z<|κ (bY underlying29 Z)<|vm Z<|ax<|bp<|?_;have eF:=(Φ M h');have j:=j.O eF;have i:=i.O eF;have ZC:=aO.K (R:=kY) (by_:=8) (B:=w.heap.size) (k:=[G]) Lf [[.int .u64 (U G)]] rfl (⟨⟨rfl,trivial⟩,trivial⟩) Kx Kx GP GE;have aa:∀ q∈τ.ai (bd P),P<=q:=λ q I=>bbz (bah.1 I).symm;have f:=f.O (Φ z (Φ M h'));refine di (λ bJ bH y=>∃ k:Nat,∃ o:ag.cS,∃ t:ag,∃ x:List (BitVec 64),∃ C:Option Addr,∃ e:Nat,bH=[(2,.pointer (bd H)),(4,.pointer (bd K)),(8,.slice C x.length e),(25,.slice A T.length c),(26,J (T.length:Int)),(27,J (k:Int))]/\bJ=T.length-k/\Ext w y/\aO y K [J 0,J 0,.slice none 0 0,.slice none 0 0,.slice none 0 0,.slice none 0 0,.slice none 0 0,J 0,J 0] 28 (0,0)/\aO y H (ag.cells o t) 28 (0,0)/\s4 y o t/\kY.aM 129 8 y w.heap.size (τ.ai C) C e (x)/\(k<=T.length)/\(∀ q∈bF.G o,q=H->False)/\(∀ q∈bF.G o,q=K->False)/\(∀ q∈τ.ai C,q∈bF.G o->False)/\(Good t)/\(t.db=W.db+(k:Int))/\(x.length<=k+1)/\(∀ q∈τ.ai C,q=K->False)/\(∀ q∈τ.ai C,q=H->False)) _ _ ⟨0,a,W,[G],some ⟨P,0,none⟩,1,Z,Z,ka,f,j,i,ZC,GE,(λ q I b=>by have:=tL q I;omega),(λ q I b=>by have:=tL q I;omega),(λ q I b=>by have:=tL q b;have:=aa q I;omega),Q,Kx,Kx,(λ q I b=>by (have:=aa q I;omega)),(λ q I b=>by (have:=aa q I;omega))⟩ (c' Z Z Z) ?_;rintro Nf aQ H3 ⟨k,o,t,x,C,e,rfl,rfl,F,f,g,po,E,au,Ql,Vx,Qk,Va,a1,a0,ai,O⟩;have aN:=f.lt;have aI:=g.lt;have tN:=b4 E.lt;refine ar<|cF Z Z<|ax<|av<|?_;refine c7 Z (λ P8=>?_) (λ P8=>?_)
 .obtain⟨yn,GA,lk,an,ao,uI⟩:=fG.d9 (k:=k) GE;have cA:=ay lk (baQ ao);refine bf<|av<|bp<|ar<|κ (bD k underlying29 Ao Z Z ((cc.be F).Y (aL k)) Z GE)<|κ (v:=.slice yn lk.length GA) (aq Z (τ.aF.H Mx ((cc.be F).O (aL k)) an Z nb))<|aG Z<|ar<|aG Z<|av<|ar<|κ (aq Z (g.all cD bP))<|vm Z<|?_;have ak:=po;refine ca aDx Z Z ((aOj o t _ _ lk _ ak Va (uI.be F) cA GE).mono ?_);rintro e KG ⟨ah,af,aR,a6,a4,aT,aF,aX,aU,aH,aY,rfl,aA,aj,aZ,p,s⟩;refine cR ?_;have:=s.size;have o3:=Φ F s;have m:=ak.next aA s p;have aw:=m.lt;refine vm Z<|bL Z Z<|bL Z Z<|bL Z Z<|?_;have g:=g.O s;refine st Z Z g Z bP Z Z Z λ zr u g=>?_;have:=u.size;have nB:=Ext.H o3 u bn;refine aG Z<|aC Z<|cV Z Z<|ax<|ef Z<|bf<|rg<|vm Z<|κ (aq Z (g.all cD bP))<|?_;have m:=m.H u (bM λ q I b=>baC (p q I) (λ al=>by (exact Ql q al b)) (λ al=>GE));refine ca akY Z Z ((asj ah af _ m.bv aj).mono ?_);rintro e NO ⟨Y,rfl,r⟩;refine cR ?_;have:=r.size;have yh:=Φ nB r;refine cT (e:=129) (cs:=[.int .u64 (U Y)]) Z (λ _=>GT) Z λ X7 a3 D aM FP=>?_;have FF:=Φ yh D;have aP:=FP.lt;have E:=((E.O s).H u (bM O)).O (Φ r D);refine ap axS τ.O E (aO.G (R:=kY) (by_:=8) (q:=Y) FP ⟨Z,trivial⟩ GP) Z Z (by simp;omega) (by simp;omega) GE Z λ C9 az aD N aB S aE=>?_;have mU:=Ext.H FF N (λ q I=>bay GE (E.lt q I).1);refine va Z<|nl<|bK<|cW Z Z Z<|?_;have f:=(((f.O s).H u aJ).O (Φ r D)).H N (λ I=>ai _ I rfl);have g:=(g.O (Φ r D)).H N (λ I=>O _ I rfl);have m:=(m.O (Φ r D)).H N (λ q I h=>by exfalso;(exact baC (p q I) (λ ae=>by (exact Qk q h ae)) (λ ae=>by (have:=tN q h;omega))));exact cM ⟨k+1,ah,af,x++ [Y],az,aD,Z,Z,mU,f,g,m,aB,GE,(λ q I b=>by (exact baC (p q I) (λ ab=>by (exact Ql q ab b)) (λ ab=>GE))),(λ q I b=>by (exact baC (p q I) (λ ad=>by (exact Vx q ad b)) (λ ad=>GE))),(λ q I b=>by (exact baC (S q I) (λ X=>by (exact baC (p q b) (λ am=>by (exact Qk q X am)) (λ am=>by (have:=tN q X;omega)))) (λ X=>by (have:=aw q b;omega)))),aj,GE,(by simp;omega),(eh S ai),(eh S O)⟩
 .refine cI<|cH<|cU<|cG<|a7<|ar<|κ (aq Z (g.all cD bP))<|vm Z<|st Z Z f Z bP Z Z Z λ C_ iA f=>?_;have pT:=Ext.H F iA bn;refine va Z<|bc Z<|cJ (.cell Z (f.all cD bP) (.tmp Z (.tmp Z .nil)))<|?_;exact⟨_,_,_,_,_,Z,pT⟩
theorem aOg(a:ag.cS)(W:ag)(A:Option Addr)(c:Nat)(T:List gV)(L:List (List aS))(w:World)(m:s4 w a W)(l:nw.aF 24 w A c T)(o:lU w T L)(d:qF W L):
  Calls prog 19 #[.agg #[J W.am.O,J W.am.high,.slice a.P W.am.G.length a.p,.slice a.B W.aT.length a.b,.slice a.S W.bl.length a.s,.slice a.M W.bE.length a.m,.slice a.T W.ah.length a.t,J W.next,J W.db,.slice A T.length c]] w (λ e w'=>e=.returned (J 0)/\Ext w w'):=by
 have g:=Good.G d.2.1;obtain⟨k,j⟩:=asb L W g.db.2 d.2.2;refine bT (n:=16) func19 Z Z Z ?_;refine cZ Z Z λ E x b D f=>?_;have G:=f.lt;refine aG Z<|ar<|κ (aj Ee Z)<|κ (aq Z (f.Y [J W.am.O,J W.am.high,.slice a.P W.am.G.length a.p,.slice a.B W.aT.length a.b,.slice a.S W.bl.length a.s,.slice a.M W.bE.length a.m,.slice a.T W.ah.length a.t,J W.next,J W.db] cD bP Z))<|κ (aj uo Z)<|a1 Z f yM Z<|ca aDy Z Z ((aOk a W _ _ T L _ (m.O b) g (l.be b) (o.be b) j d.1 k).mono ?_);rintro e K ⟨v,C,z,H,F,rfl,h⟩;refine cR ?_;have:=h.size;have p:=Φ b h;refine vm Z<|bL Z Z<|bL Z Z<|bL Z Z<|cy nO Z λ M B s y i=>?_;have q:=Φ p s;refine st Z Z i Z bP Z Z Z λ u t i=>?_;have r:=Ext.H q t bn;refine va Z<|aG Z<|aC Z<|bc Z<|b3 Z Z<|?_;exact⟨Z,r⟩
end
end Go.Proofs.YtooonebcoaleiaaGreat
namespace Go.Proofs.YtooonebcoaleiaaGreat.b9
open Tryz
open Go.RowKit Go.Proofs.YtooonebcoaleiaaGreat Go.Proofs.YtooonebcoaleiaaGreat.fg

def aiL(k:Nat)(au:k<32)(w:World):Calls prog 22 #[.int .i64 (k:Int),.int .i64 0,.int .i64 31] w λe w'=>e=.returned (.bool true)/\w=w':=by
 go_enter func22,ntmps22;go_wp2_with fail
 go_ret;exact⟨by first|rfl|exact aNT (baG GE),rfl⟩
def ay6(n k:Nat):((n:Int) / (2 ^ k:Nat)) % 2=if n.testBit k then 1 else 0:=by
 rw[bc7];have h:((n:Int) / (2 ^ k:Nat)) % 2=((n / 2 ^ k % 2:Nat):Int):=by rw[Int.natCast_emod,bdO];rfl
 rw[h];rcases bbO (n / 2 ^ k)with e|e<;>simp[e]
theorem Qf(n:Nat)(hn:n<4294967296)(k:Nat)(au:k<32)(w:World):
  Calls prog 23 #[.int .u32 (n:Int),.int .i64 (k:Int)] w λe w'=>e=.returned (.bool (n.testBit k))/\w=w':=by
 have cp:=Kd (k:=k) GE;have aFC:0<2 ^ k:=bcx k;have hr:=ay6 n k;have hw:IntKind.i64.wrap (2 ^ k:Int)=((2 ^ k:Nat):Int):=by
  have e:(2 ^ k:Int)=((2 ^ k:Nat):Int):=Kx
  rw[e];exact beg _ GE
 have I:n / 2 ^ k<4294967296:=bdv (beL _ _) hn;have hd:(n:Int) / ((2 ^ k:Nat):Int)=((n / 2 ^ k:Nat):Int):=by rw[bdO]
 rw[hd]at hr;generalize n / 2 ^ k=Q at hr hd I;generalize 2 ^ k=P at hw cp aFC hd;cases ae:n.testBit k with
 | true =>
  rw[bap ae]at hr;clear ae;go_enter func23,ntmps23;go_wp2_with fail
  refine(aiL k au _).mono ?_;rintro e w' ⟨rfl,rfl⟩;go_wp2_with fail
  go_ret;exact⟨Z,Z⟩
 | false =>
  rw[ban (by rw[ae];decide)]at hr;clear ae;go_enter func23,ntmps23;go_wp2_with fail
  refine(aiL k au _).mono ?_;rintro e w' ⟨rfl,rfl⟩;go_wp2_with fail
  go_ret;exact⟨Z,Z⟩
def KC(n k:Nat):Nat:=lV k n
def aQx(n k:Nat):KC n (k+1)=KC n k+if n.testBit k then 1 else 0:=by
 unfold KC;rw[Uf];have e:lV 1 (n / 2 ^ k)=n / 2 ^ k % 2:=by rw[show lV 1 (n / 2 ^ k)=n / 2 ^ k % 2+lV 0 (n / 2 ^ k / 2)from rfl];rfl
 rw[e,bc7];rcases bbO (n / 2 ^ k)with e|e<;>simp[e]
theorem asL(n:Nat)(hn:n<4294967296)(w:World):
  Calls prog 81 #[.int .u32 (n:Int)] w λe w'=>e=.returned (.int .i64 (size n:Int))/\w=w':=by
 go_enter func81,ntmps81;go_wp2_with fail
 go_loop [3,5] (λt i=>∃ k:Nat,k<=32/\i=.int .i64 (k:Int)/\t=.int .i64 (KC n k:Int)) (λ_ i=>32-(intOf i).toNat)
 case atStart=>exact⟨0,ba1 _,rfl,rfl⟩
 case round =>
  obtain⟨k,au,rfl,rfl⟩:=hrel;by_cases bW:k<32
  .have hs:=aQx n k;have hle:=GB k n;have fV:=Qf n hn k bW;have hle:KC n k<=k:=hle;cases ae:n.testBit k with
   | true =>
    rw[bap ae]at hs;simp only[ae]at fV;have gO:=bag hs;clear ae hs;generalize KC n k=t at *
    go_wp2_with fail
    refine(fV _).mono ?_;rintro e w' ⟨rfl,rfl⟩;go_wp2_with fail
    go_round
    case rel=>exact⟨k+1,GE,by go_num,by rw[gO.out];go_num⟩
    case measure=>simp[intOf];omega
   | false =>
    rw[ban (by rw[ae];decide)]at hs;simp only[ae]at fV;have gO:=bag hs;clear ae hs;generalize KC n k=t at *
    go_wp2_with fail
    refine(fV _).mono ?_;rintro e w' ⟨rfl,rfl⟩;go_wp2_with fail
    go_round
    case rel=>exact⟨k+1,GE,by go_num,by rw[gO.out];go_num⟩
    case measure=>simp[intOf];omega
  .obtain rfl:k=32:=GE
   go_wp2_with fail
   go_ret;exact⟨Z,Z⟩

theorem aPN(m:Nat)(hm:m<4294967296)(l:List Nat)(az:l.length=16)(b o c:Nat)(w:World)(hs:Sets w b o l)(iy:∀ j,j<l.length->2*size (l.getD j 0)<=size m):
  Calls prog 53 #[.agg #[.int .u32 (m:Int),.slice (some ⟨b,o,none⟩) 16 c]] w λe w'=>e=.returned (.int .i64 (-1))/\Below w.heap.size w w':=by
 have dx:Below w.heap.size w (w.alloc (.cells #[.int .u32 (m:Int),.slice (some ⟨b,o,none⟩) 16 c] 37)):=(baL w.heap.size w).alloc (bao _) _;have hA:=aO.new w [.int .u32 (m:Int),.slice (some ⟨b,o,none⟩) 16 c] 37 (0,0);go_enter func53,ntmps53;go_wp2_with fail
 go_loopw [4] (λi wr=>∃ k:Nat,k<=16/\i=.int .i64 (k:Int)/\Below w.heap.size w wr/\aO wr w.heap.size [.int .u32 (m:Int),.slice (some ⟨b,o,none⟩) 16 c] 37 (0,0)) (λi _=>16-(intOf i).toNat)
 case atStart=>exact⟨0,ba1 _,rfl,dx,hA⟩
 case round =>
  obtain⟨k,au,rfl,ae,hA⟩:=hrel;by_cases bW:k<16
  .obtain⟨mi,nu⟩:=(hs.O ae) k GE;have iy:=iy k GE;have hx:l.getD k 0=l[k]'(by omega):=by rw[baa,bac GE];rfl
   rw[hx]at iy;have kH:wr.cell? ⟨w.heap.size,0,none⟩=some (.int .u32 (m:Int)):=hA.cell 0;have lH:wr.cell? ⟨w.heap.size,1,none⟩=some (.slice (some ⟨b,o,none⟩) 16 c):=hA.cell 1;clear hx;have aX8:size m<=32:=GB 32 m;generalize l[k]'(by omega)=x at *
   have aYl:size x<=32:=GB 32 x;have c1:=asL x nu;have c2:=asL m hm;have CG:(0:Int)<=(k:Int):=GE
   have yZ:(k:Int)<((16:Nat):Int):=GE
   have hw:IntKind.i64.wrap (2*(size x:Int))=2*(size x:Int):=beg _ GE;have Mz:decide ((size m:Int)<2*(size x:Int))=false:=baA GE;clear iy;generalize size x=bj at *
   generalize size m=aPa at *
   go_wp2_with fail
   go_quiet ((go_at_call 81;first|(with_reducible exact quiet_of (c1 _))|(with_reducible exact quiet_of (c2 _))))
   go_wp2_with fail
   exact⟨⟨k+1,GE,by go_num,below_drewN ae _,hA.drewN _⟩,by simp[intOf];omega⟩
  .obtain rfl:k=16:=GE
   go_wp2_with fail
   go_ret;exact⟨Z,ae⟩

theorem aN1(m:Nat)(AH:m≠0)(l:List Nat)(g:zI m l)(hw:iO m l<0)(b o c:Nat)(w:World)(hs:Sets w b o l):
  Calls prog 21 #[.agg #[.int .u32 (m:Int),.slice (some ⟨b,o,none⟩) 16 c]] w λe w'=>e=.returned (.int .i64 0)/\Below w.heap.size w w':=by
 have aXC:=g.m16;have hm:m<4294967296:=GE
 have az:=g.len;have iy:∀ j,j<l.length->2*size (l.getD j 0)<=size m:=by
  intro j aB;have:=aRA hw j aB;omega
 have b1:((m:Int)== 0)=false:=by rw[bbG];omega
 have dx:Below w.heap.size w (w.alloc (.cells #[.int .u32 (m:Int),.slice (some ⟨b,o,none⟩) 16 c] 37)):=(baL w.heap.size w).alloc (bao _) _;have hA:=aO.new w [.int .u32 (m:Int),.slice (some ⟨b,o,none⟩) 16 c] 37 (0,0);have qE:=bag az;clear az;go_enter func21,ntmps21;go_wp2_with fail
 clear b1;go_loopw [17] (λi wr=>∃ k:Nat,k<=16/\i=.int .i64 (k:Int)/\Below w.heap.size w wr/\aO wr w.heap.size [.int .u32 (m:Int),.slice (some ⟨b,o,none⟩) 16 c] 37 (0,0)) (λi _=>16-(intOf i).toNat)
 case atStart=>exact⟨0,ba1 _,rfl,dx,hA⟩
 case round =>
  obtain⟨k,au,rfl,ae,hA⟩:=hrel;by_cases bW:k<16
  .have js:k<l.length:=by rw[qE.out];exact bW
   obtain⟨mi,nu⟩:=(hs.O ae) k js;have hx:l.getD k 0=l[k]:=by rw[baa,bac js];rfl
   have gs:=g.sub k;have gf:=g.self k;have U3:=g.mem k;rw[hx]at gs gf U3;clear hx;generalize l[k]=x at *
   have av0:=bag gf;clear gf;obtain⟨ags,rfl⟩:∃ ags:World,ags=wr:=⟨_,rfl⟩;have du:=ae;have hd:decide ((k:Int)<16)=true:=baG GE;go_wp2_with fail
   go_loopw [20] (λi wr=>∃ j:Nat,j<=32/\i=.int .i64 (j:Int)/\wr=ags) (λi _=>32-(intOf i).toNat)
   case atStart=>exact⟨0,ba1 _,rfl,rfl⟩
   case round =>
    obtain⟨j,aB,rfl,rfl⟩:=hrel;have kH:wr.cell? ⟨w.heap.size,0,none⟩=some (.int .u32 (m:Int)):=hA.cell 0;have lH:wr.cell? ⟨w.heap.size,1,none⟩=some (.slice (some ⟨b,o,none⟩) 16 c):=hA.cell 1;by_cases VG:j<32
    .have c1:=Qf x nu j VG;have c2:=Qf m hm k GE;have c3:=Qf m hm j VG;cases EA:x.testBit j with
     | false =>
      simp only[EA]at c1;clear EA;go_wp2_with fail
      refine(c1 _).mono ?_;rintro e w' ⟨rfl,rfl⟩;go_wp2_with fail
      go_roundw
      case rel=>exact⟨j+1,GE,by go_num,trivial⟩
      case measure=>simp[intOf];omega
     | true =>
      have anx:=gs j EA;have Qy:=U3 (by rintro rfl;rw[bdf]at EA;cases EA);have ix:((j:Int)== (k:Int))=false:=by
       rw[bbG];intro e;have e:j=k:=GE
       subst e;rw[av0.out]at EA;cases EA
      simp only[EA]at c1;simp only[Qy]at c2;simp only[anx]at c3;clear EA anx Qy U3;go_wp2_with fail
      refine(c1 _).mono ?_;rintro e w' ⟨rfl,rfl⟩;go_wp2_with fail
      refine(c2 _).mono ?_;rintro e w' ⟨rfl,rfl⟩;go_wp2_with fail
      refine(c3 _).mono ?_;rintro e w' ⟨rfl,rfl⟩;go_wp2_with fail
      go_roundw
      case rel=>exact⟨j+1,GE,by go_num,trivial⟩
      case measure=>simp[intOf];omega
    .obtain rfl:j=32:=GE
     clear U3;go_wp2_with fail
     go_roundw
     case rel=>exact⟨k+1,GE,by go_num,du,hA⟩
     case measure=>simp[intOf];omega
  .obtain rfl:k=16:=GE
   have kH:wr.cell? ⟨w.heap.size,0,none⟩=some (.int .u32 (m:Int)):=hA.cell 0;have lH:wr.cell? ⟨w.heap.size,1,none⟩=some (.slice (some ⟨b,o,none⟩) 16 c):=hA.cell 1;go_wp2_with fail
   refine(aPN m hm l qE.out b o c wr (hs.O ae) iy).mono ?_;rintro e w' ⟨rfl,bQ⟩;go_wp2_with fail
   go_ret;exact⟨Z,ae.trans (bQ.mono ae.size)⟩
end Go.Proofs.YtooonebcoaleiaaGreat.b9
namespace Go.Proofs.YtooonebcoaleiaaGreat
open Tryz
section
variable{o:aS}
open fg
open Classical in
noncomputable def ars(y:dg×List ByteArray)(c:kb):dg×List ByteArray:=if Ea y.1 c then(vP y.1 c,if c.O=2 then y.2++ [An y.1 c]else y.2)else y
def wI(p:Nat)(s:cq)(o:aS):cq:=if o.br=0/\o.by_=(p:Int)/\s.da=false/\s.O.length≠50 then⟨s.O++ [o],s.Y,s.da⟩else s
def aOL(p:Nat)(s:cq)(o:aS):(wI p s o).da=s.da:=by unfold wI;split<;>rfl
def aOM{p:Nat}{s:cq}(h:s.O.length<=50/\s.H (p:Int)=true):(wI p s o).O.length<=50/\(wI p s o).H (p:Int)=true:=by
 unfold wI;split
 .rename_i e
  obtain⟨b,c,d,g⟩:=e;obtain⟨f,a⟩:=h;refine⟨by show(s.O++ [o]).length<=50;rw[bam,bbo];omega,?_⟩;unfold cq.H at a ⊢;simp only[bai,ba3,baN,d,beW,bfn]at a ⊢;refine⟨a.1,?_⟩;rw[List.any_append,a.2];simp[b,c]
 .exact h
theorem aOI{S:List cq}(h:vH S):(RI S o->Kt S o=S.mapIdx λ p s=>wI p s o)/\(¬RI S o->S=S.mapIdx λ p s=>wI p s o):=by
 constructor
 .rintro⟨_,c,s,a,f,g⟩;obtain⟨r,q⟩:=ajc c;rw[asp a];apply bbB;intro i;rw[bd5];by_cases b:o.by_.toNat=i
  .subst b;rw[baw (bab.1 a).1,a];show _=some (wI _ s o);unfold wI;rw[bap ⟨c,GE,f,g⟩]
  .rw[baH b];cases d:S[i]? with
   | none=>rfl
   | some s' =>
    show _=some (wI i s' o);unfold wI;rw[ban (λ k=>b (by have:=k.2.1;omega))]
 .intro m;apply bbB;intro i;rw[bd5];cases d:S[i]? with
  | none=>rfl
  | some s' =>
   show _=some (wI i s' o);unfold wI;rw[ban];rintro⟨l,j,n,e⟩;exact m ⟨h,l,s',by rw[j,ba4];exact d,n,e⟩
def a2f(cs:List kb)(S:List cq):List cq:=S.mapIdx λ p s=>cs.foldl (λ s c=>wI p s c.o) s
theorem aOH{x:dg}{f:Nat->cq->cq}(h:t_ x)(j:∀ p s,(s.O.length<=50/\s.H (p:Int)=true->(f p s).O.length<=50/\(f p s).H (p:Int)=true)/\(f p s).da=s.da):t_ {x with S:=x.S.mapIdx f}:=by
 obtain⟨k,⟨t,u,m⟩,l,n,o,q,r⟩:=h;have e:(x.S.mapIdx f).length=x.S.length:=List.length_mapIdx;have d:∀(i:Nat) (s:cq),(x.S.mapIdx f)[i]? =some s->∃ a,x.S[i]? =some a/\s=f i a:=λ i s b=>by
  rw[bd5]at b;cases g:x.S[i]? with
  | none=>rw[g]at b;cases b
  | some a=>rw[g]at b;exact⟨a,Z,(bae b).symm⟩
 refine⟨k,⟨by show 1<=(x.S.mapIdx f).length;omega,by show(x.S.mapIdx f).length<=8;omega,λ i s b=>?_⟩,l,n,e.trans o,by show x.eR / 2 ^ (x.S.mapIdx f).length=0;rw[e];exact q,λ i s b=>?_⟩
 .obtain⟨a,c,rfl⟩:=d i s b;exact(j i a).1 (m i a c)
 .obtain⟨a,c,rfl⟩:=d i s b;rw[(j i a).2];exact r i a c
structure aTb(l m:List kb)(f:Nat):Prop where
 len:m.length=l.length
 drop:m.drop f=l.drop f
 fold:∀ y,(m.take f).foldl ars y=(l.take f).foldl ars y
end
section
variable{p:Int}{s:cq}{S:List cq}{x:dg}{m:Nat}
def vG(b S:List cq):Prop:=S.length=b.length/\∀(i:Nat) (s:cq),S[i]? =some s->(s.O.length<=50/\s.H (i:Int)=true)/\∃ a,b[i]? =some a/\s.da=a.da
theorem aJ1(h:s.O.length<=50/\s.H p=true):((sy s).O.length<=50/\(sy s).H p=true)/\(sy s).da=s.da:=by
 obtain⟨c,a⟩:=h;unfold sy;split
 .rename_i d
  refine⟨⟨c,?_⟩,Z⟩;unfold cq.H at a ⊢;cases b:s.da with
  | true=>simp only[b,bdi,bai,ba3,baN,baT]at a;omega
  | false=>simp[b]at a ⊢;exact a.2
 .split
  .rename_i d b
   refine⟨⟨c,?_⟩,Z⟩;unfold cq.H at a ⊢;simp[b]at a ⊢;exact⟨GE,a.2⟩
  .exact⟨⟨c,a⟩,Z⟩
def aBN(h:s.O.length<=50/\s.H p=true):(s.O.drop 1).length<=50/\(⟨s.O.drop 1,s.Y,s.da⟩:cq).H p=true:=by
 obtain⟨e,a⟩:=h;refine⟨by rw[bax];omega,?_⟩;unfold cq.H at a ⊢;simp only[bai,ba3,baN,baT,bcm]at a ⊢;refine⟨⟨a.1.1,?_⟩,λ o d=>a.2 o (bdj d)⟩;have b:=a.1.2;cases c:s.da with
 | false=>rfl
 | true=>simp[c]at b ⊢;exact⟨b.1,by rw[b.2];rfl⟩
theorem vG.step{g:List cq}{c:List aS}(h:vG g S)(m i:Nat):vG g (zk m (S,c) i).1:=by
 cases b:S[i]? with
 | none=>unfold zk;rw[show(S,c).1[i]? =none from b];exact h
 | some s =>
  by_cases f:0<s.O.length/\c.length<m
  .rw[as7 b f];refine⟨by show(S.set _ _).length=_;rw[bak];exact h.1,λ j t a=>?_⟩;have a:(S.set i ⟨s.O.drop 1,s.Y,s.da⟩)[j]? =some t:=a;by_cases e:i=j
   .subst e;rw[baw (bab.1 b).1]at a;obtain rfl:=bae a;have d:=h.2 i s b;exact⟨aBN d.1,d.2⟩
   .rw[baH e]at a;exact h.2 j t a
  .rw[as6 b f];exact h
def vG.fold{a:List cq}(m:Nat):∀(l:List Nat) (x:List cq×List aS),vG a x.1->vG a (l.foldl (zk m) x).1
 | [],_,h=>h
 | i::r,x,h=>vG.fold m r _ (h.step m i)
def vG.rounds{b:List cq}(m:Nat):∀(f:Nat) (x:List cq×List aS),vG b x.1->vG b (Cg m f x).1
 | 0,_,h=>h
 | f+1,x,h=>by
  have a:=vG.fold m (List.range x.1.length) x h;rw[Cg];split
  .exact a
  .exact vG.rounds m f _ a
def aAH(h:vH S)(m:Nat):vG S (s6 m S).1:=vG.rounds m _ _ ⟨Kx,λ i s a=>by
 have a:(S.map sy)[i]? =some s:=a;rw[bau]at a;cases b:S[i]? with
 | none=>rw[b]at a;cases a
 | some wG =>
  rw[b]at a;obtain rfl:=bae a;have c:=aJ1 (h.2.2 i wG b);exact⟨c.1,wG,Z,c.2⟩⟩
theorem aO4(h:t_ x)(e:LG x):t_ (Nz x):=by
 obtain⟨d,b,g,k,l,m,n⟩:=h;have a:=aAH b x.j6.toNat;refine⟨⟨?_,d.2.1,?_⟩,⟨?_,?_,λ i s c=>(a.2 i s c).1⟩,g,k,a.1.trans l,?_,λ i s c=>?_⟩
 .have:=e.1;show(x.L++ [_]).length<=200;rw[bam,bbo];omega
 .show lI x.W (x.L++ [_])=0;rw[RG,ban (by simpa using d.2.2),Xr];exact e.2
 .have:=a.1;have:=b.1;show 1<=(s6 x.j6.toNat x.S).1.length;omega
 .have:=a.1;have:=b.2.1;show(s6 x.j6.toNat x.S).1.length<=8;omega
 .show x.eR / 2 ^ (s6 x.j6.toNat x.S).1.length=0;rw[a.1];exact m
 .obtain⟨_,o,f,j⟩:=a.2 i s c;rw[j];exact n i o f
theorem ap6{S:List cq}{D:Nat}:∀(k i:Nat) (s:cq),i<k->(tD S D k)[i]? =some s->if D.testBit i then s=⟨[],0,true⟩else S[i]? =some s
 | 0,_,_,h,_=>GE
 | k+1,i,s,h,hs=>by
  rw[tD]at hs;by_cases e:i=k
  .subst e;split at hs
   .rename_i a
    rw[bap a];unfold CJ at hs;rw[ba4,baw (by have:=(bab.1 hs).1;simpa using this)]at hs;exact(bae hs).symm
   .rename_i a
    rw[ban a]
    rwa [Wj (bao _)]at hs
  .refine ap6 k i s GE ?_;split at hs
   .rwa [aeh GE]at hs
   .exact hs
def atK{l:List Nat}(h:IM m l)(a:∀ k,l.getD k 0<4294967296):m≠0/\b9.zI m l/\b9.iO m l<0:=(b9.aja h.1 a).1 h.2
def aqE{k:Int}(h:b9.E2 m k=true):0<=k/\k.toNat<16/\m.testBit k.toNat=true:=by
 unfold b9.E2 at h;simp only[bai,baF]at h;exact⟨h.1,GE,h.2.2⟩
theorem aAh{q:Int}(h:t_ x)(z:∀ k,x.V.getD k 0<4294967296)(y:Gy x.eR x.V p q):t_ (G2 x p q):=by
 obtain⟨m,j,n,r,u,w,E⟩:=h;obtain⟨v,g1,g2⟩:=atK n z;obtain⟨_,c1,c2,c3,c4⟩:=y;obtain⟨G,C,D⟩:=aqE c1;obtain⟨K,A,B⟩:=aqE c2;have g:=g1.aQU C A D B GE;have a:=b9.aMU 16 x.eR _ g v (by have:=b9.aqV (x.V.set q.toNat (x.V.getD q.toNat 0 ||| 2 ^ p.toNat));have:=g.len;omega);have H:=g1.m16;have f:(G2 x p q).S.length=x.S.length:=Wk _ _ _;refine⟨m,Wl j _,⟨a.hB.len,(b9.aja a.hB.len a.hB.lt).2 ⟨a.some_,a.hB,a.iO⟩⟩,r,f.trans u,?_,λ i s d=>?_⟩
 .rw[f];have o:x.eR<2 ^ x.S.length:=bfj (bcx _) w;refine bdL (Nat.lt_pow_two_of_testBit _ λ i d=>?_);rw[bdF];intro b;have c:=a.sub i b;rw[bcv (bba o (bck GE d))]at c;cases c
 .have l:i<x.S.length:=by rw[<-f];exact(bab.1 d).1
  have e:=ap6 x.S.length i s l d;have F:=j.2.1;rw[b9.Ps _ _ _ GE GE]at e;split at e
  .rename_i b
   rw[bai,ba3]at b;rw[e,show(G2 x p q).eR.testBit i=false from b.2];rfl
  .rename_i b
   rw[E i s e];congr 1;cases c:(D5 x.eR x.V p q).1.testBit i with
   | true=>rw[a.sub i c];exact c.symm
   | false =>
    rw[show(G2 x p q).eR.testBit i=false from c];cases t:x.eR.testBit i with
    | false=>rfl
    | true=>rw[t,c]at b;exact absurd Z b
def aBt{c:kb}(d:∀ k,x.V.getD k 0<4294967296)(h:Ea x c):t_ (vP x c)/\(c.O=1\/c.O=2\/c.O=3):=by
 obtain⟨b,⟨k,a⟩|⟨k,a⟩|⟨k,a⟩⟩:=h
 .rw[aaY k,(aOI b.2.1).1 a];exact⟨aOH b λ p s=>⟨aOM,aOL p s c.o⟩,.inl k⟩
 .rw[aaZ k];exact⟨aO4 b a,.inr (.inl k)⟩
 .rw[akd k];exact⟨aAh b d a,.inr (.inr k)⟩
end
section
open fg
def aNZ(n k:Nat)(b:n<4294967296)(a:k<32)(w:World):Calls prog 23 #[.int .u32 (n:Int),J (k:Int)] w (λ e w'=>e=.returned (.bool (n.testBit k))/\Ext w w'):=
 (b9.Qf n b k a w).mono λ e w' h=>⟨h.1,h.2 ▸ Ext.U w⟩
def dY.aqo{by_:Nat}{w:World}{A:Option Addr}{c:Nat}{l:List dY}(h:dY.ce.aF by_ w A c l)(k:Nat):List.getD l k (0:Nat)<4294967296:=by
 rcases ba2 k l.length with a|a
 .exact dY.C h _ (gZ a)
 .rw[baa,baX a];decide
theorem aOp(m:Nat)(V:List Nat)(A:Option Addr)(c:Nat)(w:World)(a:dY.ce.aF 4 w A c V)(l:IM m V):Calls prog 21 #[.agg #[.int .u32 (m:Int),.slice A V.length c]] w (λ e w'=>e=.returned (J 0)/\Ext w w'):=by
 have j:=dY.aqo a;obtain⟨n,g1,g2⟩:=atK l j;obtain⟨b,o,rfl,p⟩:=a.d9 (by rw[g1.len];decide);rw[g1.len];refine b9.aN1 m n V g1 g2 b o c w λ k d=>?_;obtain⟨es,g,h⟩:=p k V[k] (bac d);have i:=AB g;subst i;have f:=h 0 _ rfl;rw[show k*dY.ce.size+0=k from bcY k]at f;exact⟨f,dY.C a _ (bbl d)⟩
def aOQ{p:Int}{s:cq}(h:s.H p=true):(0<=s.Y/\s.Y<=1000000)/\(s.da=true->s.Y=0/\s.O.length=0)/\∀ o∈s.O,o.br=0/\o.by_=p:=by
 unfold cq.H at h;simp only[bai,ba3,baN,bde,baT,bcm,bdn,baY,not_or,bdQ,ne_eq,bfO]at h;refine⟨GE,λ c=>?_,λ o b=>⟨(h.2 o b).2,(h.2 o b).1⟩⟩;rcases h.1.2 with a|a
 .rw[c]at a;cases a
 .omega
def ay5{m n k:Nat}(h:m / 2 ^ n=0)(a:n<=k):m.testBit k=false :=
 bcv (bba (bfj (bcx _) h) (bck GE a))
theorem aOf(A:Option Addr)(c:Nat)(T:List bU)(S:List cq)(w:World)(x:bU.ce.aF 40 w A c T)(E:n9 w T S)(q:vH S):
  Calls prog 20 #[.slice A T.length c] w (λ e w'=>e=.returned (J 0)/\Ext w w'):=by
 have Hc:=E.len;have hC:=q.2.1;have aa:=q.1;refine bT (n:=68) func20 Z Z Z ?_;refine ar<|aG Z<|av<|aC Z<|κ (bY underlying33 Z)<|cf l_ Z (ml (T.length:Int) 1 8 _) λ ch fL=>?_;refine κ (dj Z)<|ax<|?_;have wb:(!(bA (T.length:Int) 1 8))=false:=by rw[kj GE GE];rfl
 refine ef (by rw[<-wb];rfl)<|bf<|av<|aC Z<|κ (bY underlying33 Z)<|vm Z<|ax<|bp<|?_;refine di (λ p o m=>∃ k:Nat,o=[(0,.slice A T.length c),(13,.slice A T.length c),(14,J (T.length:Int)),(15,J (k:Int))]/\p=T.length-k/\Ext w m/\(k<=T.length)) _ _ ⟨0,Z,Z,fL,GE⟩ (c' Z Z Z) ?_;rintro ap an X6 ⟨k,rfl,rfl,v,Jp⟩;have:=v.size;refine ar<|cF Z Z<|ax<|av<|?_;refine c7 Z (λ iY=>?_) (λ iY=>?_)
 .obtain⟨t,r,a,D,y,F⟩:=E.d9 (k:=k) GE;have W:=(q.2.2 k a y).1;refine bf<|av<|bp<|ar<|κ (bD k underlying33 ih Z Z ((x.be v).Y (aL k)) Z GE)<|κ (aq Z (τ.aF.G mG ((x.be v).O (aL k)) D vT ih))<|cy GN Z λ R4 ai kK al C=>?_;have wT:=Φ v kK;refine ck Z Z C Z ih Z Z λ Fl O C=>?_;have n4:=Ext.H wT O bn;refine ax<|ar<|κ (aj p3 Z)<|a1 Z C nb Z<|κ (bY underlying76 Z)<|κ (gy Z Z)<|ax<|?_;have tl:(decide (50<(a.O.length:Int)))=false:=by exact baA GE
  refine ef (by rw[<-tl];rfl)<|dP<|bK<|cW Z Z Z<|?_;exact cM ⟨k+1,Z,Z,n4,GE⟩
 .refine cI<|cH<|cU<|cG<|a7<|av<|aC Z<|κ (bY underlying33 Z)<|vm Z<|ax<|bp<|?_;refine di (λ p o m=>∃ i:Nat,o=[(24,.slice A T.length c),(25,J (T.length:Int)),(26,J (i:Int))]/\p=T.length-i/\Ext w m/\(i<=T.length)) _ _ ⟨0,Z,Z,v,GE⟩ (c' Z Z Z) ?_;rintro EX ao mn ⟨i,rfl,rfl,s,ae⟩;have:=s.size;refine ar<|cF Z Z<|ax<|av<|?_;refine c7 Z (λ uz=>?_) (λ uz=>?_)
  .obtain⟨t,r,a,D,y,F⟩:=E.d9 (k:=i) GE;have W:=(q.2.2 i a y).1;obtain⟨G,R,ab⟩:=aOQ (q.2.2 i a y).2;refine bf<|av<|bp<|aC Z<|κ (bD i underlying33 ih Z Z ((x.be s).Y (aL i)) Z GE)<|κ (aq Z (τ.aF.G mG ((x.be s).O (aL i)) D vT ih))<|cy GN Z λ Bn g hN ag f=>?_;have lN:=Φ s hN;refine va Z<|ck Z Z f Z ih Z Z λ Bo nV f=>?_;have mR:=Ext.H lN nV bn;refine ax<|av<|ar<|κ (aj Cp Z)<|a1 Z f aH Z<|cf l_ Z (ml a.Y 0 1000000 _) λ xY K=>?_;have n5:=Φ mR K;refine κ (dj Z)<|vm Z<|aR Z (λ b=>aj Cq Z)<|?_;have f:=f.O K;refine aR Z (λ b=>aq (gt b Z) (f.one At Z))<|Bk Z (λ b=>(gt b Z))<|dV Z Z Z Z (λ b=>aj Cp Z) Z<|dV Z Z Z Z (λ b=>aq (gt b Z) (f.one aH Z)) Z<|dV Z Z Z Z (λ b=>gy (gt b Z) Z) Z<|dV Z Z Z Z (λ b=>fW (gt b Z)) Z<|dV Z Z Z Z (λ b=>aj p3 Z) Z<|dV Z Z Z Z (λ b=>aq (gt b Z) (f.one nb Z)) Z<|dV Z Z Z Z (λ b=>bY underlying76 (gt b Z)) Z<|dV Z Z Z Z (λ b=>gy (gt b Z) Z) Z<|dV Z Z Z Z (λ b=>Rw b (gt b Z) Z Z) Z<|aR Z (λ b=>E7 b (gt b Z) Z Z)<|κ (dS Z Z Z Z)<|ax<|?_;have Q:((!(bA a.Y 0 1000000)) || (a.da && ((decide (0<a.Y)) || (decide (0<(a.O.length:Int))))))=false:=by rw[kj G.1 G.2];cases X:a.da with
   | false=>rfl
   | true=>obtain⟨U,V⟩:=R X;rw[U,V];rfl
   refine ef (by rw[<-Q];rfl)<|bf<|ar<|κ (aj p3 Z)<|a1 Z f nb Z<|κ (bY underlying76 Z)<|vm Z<|ax<|bp<|?_;refine di (λ p o m=>∃ j:Nat,o=[(5,J (i:Int)),(6,.pointer (bd g)),(24,.slice A T.length c),(25,J (T.length:Int)),(26,J (i:Int)),(27,.bool (decide ((i:Int)<(T.length:Int)))),(28,J (i:Int)),(29,.pointer (some ⟨fv A,j7 A+i*3,none⟩)),(30,.agg #[.slice t a.O.length r,J a.Y,.bool a.da]),(31,.pointer (some ⟨g,1,none⟩)),(32,J a.Y),(33,.bool (bA a.Y 0 1000000)),(34,.bool (!(bA a.Y 0 1000000))),(35,.bool (!(bA a.Y 0 1000000))),(36,cP ((!(bA a.Y 0 1000000))== false) (.pointer (some ⟨g,2,none⟩))),(37,cP ((!(bA a.Y 0 1000000))== false) (.bool a.da)),(38,cP ((!(bA a.Y 0 1000000))== false) (.bool a.da)),(39,cP (((!(bA a.Y 0 1000000))== false) && (a.da == true)) (.pointer (some ⟨g,1,none⟩))),(40,cP (((!(bA a.Y 0 1000000))== false) && (a.da == true)) (J a.Y)),(41,cP (((!(bA a.Y 0 1000000))== false) && (a.da == true)) (.bool (decide (0<a.Y)))),(42,cP (((!(bA a.Y 0 1000000))== false) && (a.da == true)) (.bool (decide (0<a.Y)))),(43,cP ((((!(bA a.Y 0 1000000))== false) && (a.da == true)) && ((decide (0<a.Y))== false)) (.pointer (bd g))),(44,cP ((((!(bA a.Y 0 1000000))== false) && (a.da == true)) && ((decide (0<a.Y))== false)) (.slice t a.O.length r)),(45,cP ((((!(bA a.Y 0 1000000))== false) && (a.da == true)) && ((decide (0<a.Y))== false)) (J (a.O.length:Int))),(46,cP ((((!(bA a.Y 0 1000000))== false) && (a.da == true)) && ((decide (0<a.Y))== false)) (.bool (decide (0<(a.O.length:Int))))),(47,cP (((!(bA a.Y 0 1000000))== false) && (a.da == true)) (.bool ((decide (0<a.Y)) || (decide (0<(a.O.length:Int)))))),(48,cP ((!(bA a.Y 0 1000000))== false) (.bool (a.da && ((decide (0<a.Y)) || (decide (0<(a.O.length:Int))))))),(49,.bool ((!(bA a.Y 0 1000000)) || (a.da && ((decide (0<a.Y)) || (decide (0<(a.O.length:Int))))))),(50,.pointer (bd g)),(51,.slice t a.O.length r),(52,J (a.O.length:Int)),(53,J (j:Int))]/\p=a.O.length-j/\Ext w m/\aO m g [.slice t a.O.length r,J a.Y,.bool a.da] 78 (0,0)/\(j<=a.O.length)) _ _ ⟨0,Z,Z,n5,f,GE⟩ (c' Z Z Z) ?_;rintro pF ah H4 ⟨j,rfl,rfl,z,f,af⟩;have ad:=f.lt;refine ar<|cF Z Z<|ax<|av<|?_;refine c7 Z (λ N=>?_) (λ N=>?_)
   .have M:=ab _ (gZ (d:=default) (show j<a.O.length by omega));refine bf<|av<|bp<|ar<|κ (bD j underlying76 eu Z Z ((F.be z).Y (aL j)) Z GE)<|κ (aq Z (τ.aF.G yX ((F.be z).O (aL j)) (cg (l:=a.O) (u:=default) GE) iw eu))<|cy GL Z λ KI ak L am h=>?_;have pR:=Φ z L;refine ck Z Z h Z eu Z Z λ au H h=>?_;have P:=Ext.H pR H bn;refine ax<|ar<|κ (aq Z (h.all iw eu))<|cf akS Z (asa (a.O.getD j default) _ M.1) λ NP B=>?_;have yi:=Φ P B;refine cV Z Z<|vm Z<|iC Z Z Z<|κ (aj ri Z)<|iC Z Z Z<|?_;have h:=h.O B;refine a1 Z h aH Z<|iC Z Z Z<|vm Z<|iC Z Z Z<|cV Z Z<|κ (uZ Z Z)<|ax<|?_;have Y:(((a.O.getD j default).by_) != (i:Int))=false:=by rw[M.2];simp
    refine ef (by rw[<-Y];rfl)<|dP<|bK<|cW Z Z Z<|?_;have f:=((f.O L).H H aJ).O B;exact cM ⟨j+1,Z,Z,yi,f,GE⟩
   .refine cI<|cH<|cU<|cG<|bK<|cW Z Z Z<|?_;exact cM ⟨i+1,Z,Z,z,GE⟩
  .refine cI<|cH<|cU<|cG<|a7<|ar<|bc Z<|b3 Z Z<|?_;exact⟨Z,s⟩
theorem aN0(b:mz)(c:dg)(w:World)(f:dg.fd w b c)(T:∀ q∈bF.G b.a,q<w.heap.size)(g:t_ c):
  Calls prog 7 #[.agg ((dg.cells b c).toArray)] w (λ e w'=>e=.returned (J 0)/\Ext w w'):=by
 have N:s4 w b.a c.W:=⟨f.W,T⟩;have H:=f.S.len;have F:b.U.length=c.W.aT.length:=H.trans g.2.2.2.2.1;refine bT (n:=73) func7 Z Z Z ?_;refine cZ Z Z λ ch p i cY d=>?_;refine aG Z<|ar<|κ (aj xw Z)<|κ (aq Z (d.Y [J c.W.am.O,J c.W.am.high,.slice b.a.P c.W.am.G.length b.a.p,.slice b.a.B c.W.aT.length b.a.b,.slice b.a.S c.W.bl.length b.a.s,.slice b.a.M c.W.bE.length b.a.m,.slice b.a.T c.W.ah.length b.a.t,J c.W.next,J c.W.db,.slice b.A b.T.length b.c] Aq rj Z))<|cf aDz Z (aOg b.a c.W _ _ b.T c.L _ (N.O i) (f.T.be i) (f.L.be i) g.1) λ dr s=>?_;have m:=Φ i s;refine aG Z<|av<|aC Z<|κ (beq Z Z)<|ax<|fB Z<|rg<|κ (aj nN Z)<|?_;have d:=d.O s;refine a1 Z d p4 Z<|cf aDA Z (aOf _ _ b.U c.S _ (f.U.be m) (f.S.be m) g.2.1) λ sM B=>?_;have A:=Φ m B;refine aG Z<|av<|aC Z<|κ (beq Z Z)<|ax<|fB Z<|rg<|κ (aj s9 Z)<|?_;have d:=d.O B;refine κ (aq Z (d.Y [.int .u32 (c.eR:Int),.slice b.C c.V.length b.e] oc ky Z))<|cf aDB Z (aOp c.eR c.V _ _ _ (f.V.be A) g.2.2.1) λ X C=>?_;have S:=Φ A C;refine aG Z<|av<|aC Z<|κ (beq Z Z)<|vm Z<|iC Z Z Z<|κ (aj I8 Z)<|iC Z Z Z<|?_;have d:=d.O C;refine a1 Z d aH Z<|iC Z Z Z<|cf l_ Z (ml c.j6 1 100 _) λ Fl z=>?_;have Q:=Φ S z;refine iC Z Z Z<|κ (dj Z)<|κ (pH Z Z)<|ax<|?_;have V:(!(bA c.j6 1 100))=false:=by rw[kj g.2.2.2.1.1 g.2.2.2.1.2];rfl
 refine ef (by rw[<-V];rfl)<|bf<|av<|aC Z<|cV Z Z<|ax<|ef Z<|bf<|av<|ar<|κ (aj nN Z)<|?_;have d:=d.O z;refine a1 Z d p4 Z<|κ (bY underlying33 Z)<|κ (aj xw Z)<|κ (aj Ee Z)<|κ (aj lY Z)<|a1 Z d lZ Z<|κ (bY underlying25 Z)<|cV Z Z<|ax<|?_;have U:((b.U.length:Int) != (c.W.aT.length:Int))=false:=by rw[F];simp
 refine ef (by rw[<-U];rfl)<|bf<|av<|aC Z<|ax<|bp<|?_;refine di (λ L K r=>∃ k:Nat,K=[(1,.pointer (bd p)),(39,J (k:Int))]/\L=16-k/\Ext w r/\aO r p (dg.cells b c) 39 (0,0)/\(k<=16)) _ _ ⟨0,Z,Z,Q,d,GE⟩ (c' Z Z Z) ?_;rintro Y aa mn ⟨k,rfl,rfl,x,d,au⟩;refine ar<|cF Z Z<|ax<|av<|?_;refine c7 Z (λ D=>?_) (λ D=>?_)
 .refine bf<|av<|bp<|aC Z<|aG Z<|ar<|κ (aj s9 Z)<|κ (aj r4 Z)<|a1 Z d ob Z<|vm Z<|cf aDC Z (aNZ c.eR k f.m GE _) λ vk o=>?_;have h:=Φ x o;refine aG Z<|av<|?_;rcases ba2 k b.U.length with M|uG
  .obtain⟨fQ,dC,j,O,P,hx⟩:=f.S.d9 M;have G:=g.2.2.2.2.2.2 k j P;have y:(decide ((b.U.length:Int)<=(k:Int)))=false:=baA GE;have t:(decide ((k:Int)<(b.U.length:Int)))=true:=baG GE;refine rg<|vm Z<|κ (aj nN Z)<|?_;have d:=d.O o;refine a1 Z d p4 Z<|κ (bY underlying33 Z)<|κ (iV Z Z)<|vm Z<|er Z Z<|κ (cQ Z Z Z Z)<|vm Z<|er Z Z<|aR Z (λ a=>aj nN Z)<|aR Z (λ a=>aq (gt a Z) (d.one p4 Z))<|aR Z (λ a=>bY underlying33 (gt a Z))<|aR Z (λ a=>blt (gt a Z) (gt a Z))<|Bk Z (λ a=>(gt a Z))<|dV Z Z Z Z (λ a=>fW Z) Z<|dV Z Z Z Z (λ a=>aj nN Z) Z<|dV Z Z Z Z (λ a=>aq (gt a Z) (d.one p4 Z)) Z<|dV Z Z Z Z (λ a=>fW Z) Z<|dV Z Z Z Z (λ a=>bD k underlying33 ih (gt a Z) (gt a Z) ((f.U.be h).Y (aL k (by (try simp only[cb]at a);omega))) Z (by (try simp only[cb]at a);omega)) Z<|dV Z Z Z Z (λ a=>aj Cq (gt a Z)) Z<|dV (v:=.bool j.da) Z Z Z Z (λ a=>aq (gt a Z) (τ.aF.C mG ((f.U.be h).O (aL k (by (try simp only[cb]at a);omega))) 2 O Z At)) Z<|dV Z Z Z Z (λ a=>T9 underlying4 (gt a Z) (gt a Z)) Z<|aR Z (λ a=>E7 a (gt a Z) Z Z)<|κ (dS Z Z Z Z)<|nl<|?_;refine a7<|?_;have E:(((decide ((b.U.length:Int)<=(k:Int))) && (c.eR.testBit k)) || ((decide ((k:Int)<(b.U.length:Int))) && ((c.eR.testBit k)== j.da)))=false:=by rw[y,G];cases c.eR.testBit k<;>simp
   refine ef (by rw[<-E];rfl)<|dP<|bK<|cW Z Z Z<|?_;exact cM ⟨k+1,Z,Z,h,d,GE⟩
  .have W:=ay5 g.2.2.2.2.2.1 (by omega:c.S.length<=k);have y:(decide ((b.U.length:Int)<=(k:Int)))=true:=baG GE;have t:(decide ((k:Int)<(b.U.length:Int)))=false:=baA GE;refine rg<|vm Z<|κ (aj nN Z)<|?_;have d:=d.O o;refine a1 Z d p4 Z<|κ (bY underlying33 Z)<|κ (iV Z Z)<|vm Z<|er Z Z<|κ (cQ Z Z Z Z)<|vm Z<|er Z Z<|aR Z (λ a=>aj nN Z)<|aR Z (λ a=>aq (gt a Z) (d.one p4 Z))<|aR Z (λ a=>bY underlying33 (gt a Z))<|aR Z (λ a=>blt (gt a Z) (gt a Z))<|Bk Z (λ a=>(gt a Z))<|dV Z Z Z Z (λ a=>fW Z) Z<|dV Z Z Z Z (λ a=>aj nN Z) Z<|dV Z Z Z Z (λ a=>aq (gt a Z) (d.one p4 Z)) Z<|dV Z Z Z Z (λ a=>fW Z) Z<|dV Z Z Z Z (λ a=>bD k underlying33 ih (gt a Z) (gt a Z) ((f.U.be h).Y (aL k (by (try simp only[cb]at a);omega))) Z (by (try simp only[cb]at a);omega)) Z<|dV Z Z Z Z (λ a=>aj Cq (gt a Z)) Z<|dV Z Z Z Z (λ a=>aq (gt a Z) (τ.aF.C mG ((f.U.be h).O (aL k (by (try simp only[cb]at a);omega))) 2 (cg (l:=b.U) (u:=default) (by (try simp only[cb]at a);omega)) Z At)) Z<|dV Z Z Z Z (λ a=>T9 underlying4 (gt a Z) (gt a Z)) Z<|aR Z (λ a=>E7 a (gt a Z) Z Z)<|κ (dS Z Z Z Z)<|nl<|?_;refine a7<|?_;have R:(((decide ((b.U.length:Int)<=(k:Int))) && (c.eR.testBit k)) || ((decide ((k:Int)<(b.U.length:Int))) && ((c.eR.testBit k)== ((b.U.getD k default).da))))=false:=by rw[t,W];simp
   refine ef (by rw[<-R];rfl)<|dP<|bK<|cW Z Z Z<|?_;exact cM ⟨k+1,Z,Z,h,d,GE⟩
 .refine cI<|cH<|cU<|cG<|a7<|ar<|bc Z<|b3 Z Z<|?_;exact⟨Z,x⟩
end
section
open fg
theorem aEc(g:FuncId)(cs:List Value)(A t:Option Addr)(c d:Nat)(T i:List gV)(L b:List (List aS))(w:World)(z:nw.aF 24 w A c T)(h:lU w T L)(j:nw.aF 24 w t d i)(f:lU w i b)(U:Enters prog g)(O:∀(A B:Option Addr) (c d:Nat) (l m:List aS) w',aS.ce.aF 48 w' A c l->aS.ce.aF 48 w' B d m->Calls prog g (([.slice A l.length c,.slice B m.length d]:List Value)++cs).toArray w' λ e V=>e=.returned (.bool (decide (l=m)))/\Ext w' V):
  Calls prog 46 #[.slice A T.length c,.slice t i.length d,.func (.func g) #[] cs.toArray] w (λ e w'=>e=.returned (.bool (decide (L=b)))/\Ext w w'):=by
 have af:=j.M;have ad:=h.1;have ae:=f.1;refine bT (n:=32) func46 Z Z Z ?_;refine ar<|aG Z<|av<|aC Z<|κ (bY underlying29 Z)<|vm Z<|κ (bY underlying29 Z)<|cV Z Z<|ax<|?_;refine fr Z (λ R=>?_) (λ R=>?_)
 .have q:L≠b:=λ p=>by have:=h.1;have:=f.1;have:=bbh List.length p;omega
  refine ar<|bc Z<|bR<|b3 Z Z<|?_;exact⟨by rw[baA q];rfl,(Ext.U w)⟩
 .refine bf<|av<|aC Z<|κ (bY underlying29 Z)<|vm Z<|ax<|bp<|?_;refine di (λ M K F=>∃ k:Nat,K=[(1,.slice t i.length d),(2,.func (.func g) #[] cs.toArray),(15,.slice A T.length c),(16,J (T.length:Int)),(17,J (k:Int))]/\M=T.length-k/\Ext w F/\(k<=T.length)/\(L.take k=b.take k)) _ _ ⟨0,Z,Z,(Ext.U w),GE,rfl⟩ (c' Z Z Z) ?_;rintro CR BQ kr ⟨k,rfl,rfl,a,au,x⟩;refine ar<|cF Z Z<|ax<|av<|?_;refine c7 Z (λ W=>?_) (λ W=>?_)
  .obtain⟨P,N,s,Q,u,S⟩:=h.d9 (k:=k) GE;obtain⟨zE,Y,o,D,y,H⟩:=f.d9 (k:=k) GE;refine bf<|av<|bp<|aC Z<|κ (bD k underlying29 Ao Z Z ((z.be a).Y (aL k)) Z GE)<|κ (v:=.slice P s.length N) (aq Z (τ.aF.H Mx ((z.be a).O (aL k)) Q Z nb))<|va Z<|aG Z<|aC Z<|vm Z<|κ (bD k underlying29 Ao Z Z ((j.be a).Y (aL k)) Z GE)<|κ (v:=.slice zE o.length Y) (aq Z (τ.aF.H Mx ((j.be a).O (aL k)) D Z nb))<|aG Z<|ar<|?_;refine vm Z<|vm Z<|vm Z<|Ae U Z Z Z ((O _ _ _ _ s o _ (S.be a) (H.be a)).mono ?_);rintro e zt ⟨rfl,X⟩;refine cR ?_;have C:=Φ a X;refine κ (dj Z)<|ax<|?_;refine dB Z (λ r=>?_) (λ r=>?_)
   .have q:L≠b:=λ p=>by rw[p,y]at u;exact absurd (bae u).symm (by simpa using r)
    refine ar<|bc Z<|dO<|bR<|k1<|dO<|bR<|b3 Z Z<|?_;exact⟨by rw[baA q];rfl,C⟩
   .have G:s=o:=by simpa using r
    refine dP<|bK<|cW Z Z Z<|?_;exact cM ⟨k+1,Z,Z,C,GE,by rw[C2 u,C2 y,x,G]⟩
  .have E:L=b:=by have aa:=h.1;have ab:=f.1;rwa [baE GE,baE GE]at x
   refine cI<|cH<|cU<|cG<|a7<|ar<|bc Z<|b3 Z Z<|?_;exact⟨by rw[baG E];rfl,a⟩
end
section
open fg
theorem aOF(A a:Option Addr)(c d:Nat)(l m:List aS)(w:World)(b:aS.ce.aF 48 w A c l)(g:aS.ce.aF 48 w a d m):
  Calls prog 47 #[.slice A l.length c,.slice a m.length d] w (λ e w'=>e=.returned (.bool (decide (l=m)))/\Ext w w'):=by
 refine bT (n:=8) func47 Z Z Z ?_;refine ar<|aG Z<|aC Z<|vm Z<|cf akZ Z (alm _ _ _ _ _ _ l m _ (b.be (Ext.U w)) (g.be (Ext.U w))) λ h f=>?_;refine bc Z<|b3 Z Z<|?_;exact⟨Z,f⟩
theorem aOB(a:ag.cS)(W:ag)(b:ag.cS)(X:ag)(A s:Option Addr)(c d:Nat)(T k:List gV)(L o:List (List aS))(w:World)(y:ag.fd w a W)(u:ag.fd w b X)(z:nw.aF 24 w A c T)(E:lU w T L)(t:nw.aF 24 w s d k)(v:lU w k o):
  Calls prog 17 #[.agg #[J W.am.O,J W.am.high,.slice a.P W.am.G.length a.p,.slice a.B W.aT.length a.b,.slice a.S W.bl.length a.s,.slice a.M W.bE.length a.m,.slice a.T W.ah.length a.t,J W.next,J W.db,.slice A T.length c],.agg #[J X.am.O,J X.am.high,.slice b.P X.am.G.length b.p,.slice b.B X.aT.length b.b,.slice b.S X.bl.length b.s,.slice b.M X.bE.length b.m,.slice b.T X.ah.length b.t,J X.next,J X.db,.slice s k.length d]] w (λ e w'=>e=.returned (.bool (decide (W=X) && decide (L=o)))/\Ext w w'):=by
 refine bT (n:=17) func17 Z Z Z ?_;refine cZ Z Z λ M G x K g=>?_;refine gz Z Z λ N H r O j=>?_;have p:=Φ x r;refine aG Z<|ar<|κ (aj Ee Z)<|?_;have g:=g.O r;refine κ (aq Z (g.Y [J W.am.O,J W.am.high,.slice a.P W.am.G.length a.p,.slice a.B W.aT.length a.b,.slice a.S W.bl.length a.s,.slice a.M W.bE.length a.m,.slice a.T W.ah.length a.t,J W.next,J W.db] cD bP Z))<|κ (aj Ee Z)<|κ (aq Z (j.Y [J X.am.O,J X.am.high,.slice b.P X.am.G.length b.p,.slice b.B X.aT.length b.b,.slice b.S X.bl.length b.s,.slice b.M X.bE.length b.m,.slice b.T X.ah.length b.t,J X.next,J X.db] cD bP Z))<|cf aDD Z (aOD _ a W b X (y.be p) (u.be p)) λ P q=>?_;have i:=Φ p q;refine vm Z<|aR Z (λ f=>aj uo Z)<|?_;have g:=g.O q;refine aR Z (λ f=>aq (gt f Z) (g.one yM Z))<|aR Z (λ f=>aj uo Z)<|?_;have j:=j.O q;refine aR Z (λ f=>aq (gt f Z) (j.one yM Z))<|iD Z aDF (λ f=>b6 (gt f Z) (b6 (gt f Z) (b6 Z Z))) (λ f=>aEc 47 [] _ _ _ _ T k L o _ (z.be i) (E.be i) (t.be i) (v.be i) aDE (λ A B c d l m w' h C=>aOF A B c d l m w' h C)) λ Q F=>?_;have D:=Φ i F;refine κ (cQ Z Z Z Z)<|bc Z<|b3 Z Z<|?_;exact⟨Z,D⟩
end
section
open fg
theorem aEf(A B:Option Addr)(c d C y:Nat)(l m:List dY)(w:World)(g:dY.ce.aF C w A c l)(o:dY.ce.aF y w B d m):
  Calls prog 24 #[.slice A l.length c,.slice B m.length d] w (λ e w'=>e=.returned (.bool (decide (l=m)))/\Ext w w'):=by
 have D:=g.M;refine bT (n:=26) func24 Z Z Z ?_;refine ar<|aG Z<|av<|aC Z<|κ (bY underlying35 Z)<|vm Z<|κ (bY underlying35 Z)<|cV Z Z<|ax<|?_;refine fr Z (λ q=>?_) (λ q=>?_)
 .refine ar<|bc Z<|bR<|b3 Z Z<|?_;rw[baA (λ e=>q (by rw[e]))];exact⟨Z,(Ext.U w)⟩
 .refine bf<|av<|aC Z<|κ (bY underlying35 Z)<|vm Z<|ax<|bp<|?_;refine di (λ v u t=>∃ k:Nat,u=[(0,.slice A l.length c),(1,.slice B m.length d),(12,J (l.length:Int)),(13,J (k:Int))]/\v=l.length-k/\Ext w t/\(k<=l.length)/\(∀ j,j<k->l[j]? =m[j]?)) _ _ ⟨0,Z,Z,(Ext.U w),GE,λ j s=>absurd s GE⟩ (c' Z Z Z) ?_;rintro K H M ⟨k,rfl,rfl,b,L,p⟩;have D:=g.M;refine ar<|cF Z Z<|ax<|av<|?_;refine c7 Z (λ E=>?_) (λ E=>?_)
  .obtain⟨z,f⟩:=iK (l:=l) (i:=k) GE;obtain⟨G,h⟩:=iK (l:=m) (i:=k) GE;refine bf<|av<|bp<|aC Z<|aG Z<|av<|?_;refine c_ [(3,0),(7,0)] [0,1,2,3,4,5,6,7,8] ?_;refine bt Z Z<|bt Z Z<|aA Z (λ _=>bD k underlying35 vU Z Z ((g.be b).Y (aL k)) Z GE)<|dE Z (λ _ x=>aq Z (τ.aF.H AB ((g.be (Φ b x)).O (aL k)) f Z ob))<|bt Z Z<|bt Z Z<|aA Z (λ _=>bD k underlying35 vU Z Z ((o.be b).Y (aL k)) Z GE)<|dE Z (λ _ x=>aq Z (τ.aF.H AB ((o.be (Φ b x)).O (aL k)) h Z ob))<|aA Z (λ _=>bne Z Z)<|fn λ N F=>?_;have r:=Φ b F;refine a7<|?_;refine fr Z (λ a=>?_) (λ a=>?_)
   .refine ar<|bc Z<|dO<|bR<|k1<|dO<|bR<|b3 Z Z<|?_;rw[baA (λ e=>by rw[e,h]at f;injection f with f;exact absurd f.symm (by first|exact Rq a|exact a|exact λ e=>a (by rw[e])|exact Int.ofNat.inj a))];exact⟨Z,r⟩
   .refine dP<|bK<|cW Z Z Z<|?_;exact cM ⟨k+1,Z,Z,r,GE,pC p (by rw[f,h,(by first|exact PD a|exact a|exact λ e=>a (by rw[e])|exact Int.ofNat.inj a:z=G)])⟩
  .refine cI<|cH<|cU<|cG<|a7<|ar<|bc Z<|b3 Z Z<|?_;rw[baG (PC GE GE p)];exact⟨Z,b⟩
end
section
open fg
theorem aOz(A:Option Addr)(c:Nat)(i:Option Addr)(d:Nat)(s:cq)(w:World)(o:aS.ce.aF 48 w A c s.O)(j:aS.ce.aF 48 w i d s.O):
  Calls prog 50 #[.agg #[.slice A s.O.length c,J s.Y,.bool s.da],.agg #[.slice i s.O.length d,J s.Y,.bool s.da]] w (λ e w'=>e=.returned (.bool true)/\Ext w w'):=by
 refine bT (n:=24) func50 Z Z Z ?_;refine cZ Z Z λ t p k r b=>?_;refine gz Z Z λ u q h v f=>?_;have g:=Φ k h;refine aG Z<|ar<|κ (aj Cp Z)<|?_;have b:=b.O h;refine a1 Z b aH Z<|κ (aj Cp Z)<|a1 Z f aH Z<|κ (beq Z Z)<|vm Z<|aR Z (λ a=>aj Cq Z)<|aR Z (λ a=>aq (gt a Z) (b.one At Z))<|aR Z (λ a=>aj Cq Z)<|aR Z (λ a=>aq (gt a Z) (f.one At Z))<|aR Z (λ a=>T9 underlying4 (gt a Z) (gt a Z))<|κ (cQ Z Z Z Z)<|vm Z<|aR Z (λ a=>aj p3 Z)<|aR Z (λ a=>aq (gt a Z) (b.one nb Z))<|aR Z (λ a=>aj p3 Z)<|aR Z (λ a=>aq (gt a Z) (f.one nb Z))<|iD Z akZ (λ a=>b6 (gt a Z) (b6 (gt a Z) Z)) (λ a=>alm _ _ _ _ _ _ s.O s.O _ (o.be g) (j.be g)) λ x m=>?_;have l:=Φ g m;refine κ (cQ Z Z Z Z)<|bc Z<|b3 Z Z<|?_;exact⟨by simp[rG],l⟩
theorem aEd(A i:Option Addr)(c d:Nat)(T f:List bU)(S:List cq)(w:World)(g:bU.ce.aF 40 w A c T)(p:n9 w T S)(m:bU.ce.aF 40 w i d f)(o:n9 w f S):
  Calls prog 49 #[.slice A T.length c,.slice i f.length d,.func (.func 50) #[] #[]] w (λ e w'=>e=.returned (.bool true)/\Ext w w'):=by
 have X:=g.M;have sr:=p.len;have ni:=o.len;refine bT (n:=32) func49 Z Z Z ?_;refine ar<|aG Z<|av<|aC Z<|κ (bY underlying33 Z)<|vm Z<|κ (bY underlying33 Z)<|cV Z Z<|ax<|?_;have K:((T.length:Int) != (f.length:Int))=false:=by simp;omega
 refine ef (by rw[<-K];rfl)<|bf<|av<|aC Z<|κ (bY underlying33 Z)<|vm Z<|ax<|bp<|?_;refine di (λ z y v=>∃ k:Nat,y=[(1,.slice i f.length d),(2,.func (.func 50) #[] #[]),(15,.slice A T.length c),(16,J (T.length:Int)),(17,J (k:Int))]/\z=T.length-k/\Ext w v/\(k<=T.length)) _ _ ⟨0,Z,Z,(Ext.U w),GE⟩ (c' Z Z Z) ?_;rintro W U kr ⟨k,rfl,rfl,b,au⟩;have:=b.size;refine ar<|cF Z Z<|ax<|av<|?_;refine c7 Z (λ P=>?_) (λ P=>?_)
 .obtain⟨G,D,B,H,N,L⟩:=p.d9 (k:=k) GE;obtain⟨R,Q,ae,t,u,x⟩:=o.d9 (k:=k) GE;obtain rfl:=bae (N.symm.trans u);refine bf<|av<|bp<|aC Z<|κ (bD k underlying33 ih Z Z ((g.be b).Y (aL k)) Z GE)<|κ (aq Z (τ.aF.G mG ((g.be b).O (aL k)) H vT ih))<|cy GN Z λ zt O9 C ab a=>?_;have O:=Φ b C;have aa:=a.lt;refine va Z<|ck Z Z a Z ih Z Z λ V r a=>?_;have:=r.size;have j:=Ext.H O r bn;refine ax<|aC Z<|vm Z<|κ (bD k underlying33 ih Z Z ((m.be j).Y (aL k)) Z GE)<|κ (aq Z (τ.aF.G mG ((m.be j).O (aL k)) t vT ih))<|cy GN Z λ nY Y q ad l=>?_;have F:=Φ j q;refine ck Z Z l Z ih Z Z λ ow s l=>?_;have h:=Ext.H F s bn;refine ax<|aC Z<|?_;have a:=(a.O q).H s aJ;refine κ (aq Z (a.all vT ih))<|κ (aq Z (l.all vT ih))<|Ae aDG Z Z Z ((aOz G D R Q B _ (L.be h) (x.be h)).mono ?_);rintro e rI ⟨rfl,E⟩;refine cR ?_;have M:=Φ h E;refine κ (dj Z)<|ax<|ef Z<|dP<|bK<|cW Z Z Z<|?_;exact cM ⟨k+1,Z,Z,M,GE⟩
 .refine cI<|cH<|cU<|cG<|a7<|ar<|bc Z<|b3 Z Z<|?_;exact⟨Z,b⟩
theorem aOA(A b:Option Addr)(c d:Nat)(T a:List bU)(S:List cq)(w:World)(h:bU.ce.aF 40 w A c T)(j:n9 w T S)(f:bU.ce.aF 40 w b d a)(g:n9 w a S):
  Calls prog 18 #[.slice A T.length c,.slice b a.length d] w (λ e w'=>e=.returned (.bool true)/\Ext w w'):=by
 refine bT (n:=8) func18 Z Z Z ?_;refine ar<|aG Z<|aC Z<|vm Z<|cf aDH Z (aEd _ _ _ _ T a S _ (h.be (Ext.U w)) (j.be (Ext.U w)) (f.be (Ext.U w)) (g.be (Ext.U w))) λ k i=>?_;refine bc Z<|b3 Z Z<|?_;exact⟨Z,i⟩
theorem aso(A:Option Addr)(c:Nat)(i:Option Addr)(d:Nat)(m:Nat)(V:List Nat)(w:World)(p:dY.ce.aF 4 w A c V)(j:dY.ce.aF 4 w i d V):
  Calls prog 8 #[.agg #[.int .u32 (m:Int),.slice A V.length c],.agg #[.int .u32 (m:Int),.slice i V.length d]] w (λ e w'=>e=.returned (.bool true)/\Ext w w'):=by
 refine bT (n:=17) func8 Z Z Z ?_;refine cZ Z Z λ t q k s b=>?_;refine gz Z Z λ u r h v g=>?_;have f:=Φ k h;refine aG Z<|ar<|κ (aj r4 Z)<|?_;have b:=b.O h;refine a1 Z b ob Z<|κ (aj r4 Z)<|a1 Z g ob Z<|κ (beq Z Z)<|vm Z<|aR Z (λ a=>aj vV Z)<|aR Z (λ a=>aq (gt a Z) (b.one yN Z))<|aR Z (λ a=>aj vV Z)<|aR Z (λ a=>aq (gt a Z) (g.one yN Z))<|iD Z aDI (λ a=>b6 (gt a Z) (b6 (gt a Z) Z)) (λ a=>aEf _ _ _ _ _ _ V V _ (p.be f) (j.be f)) λ x o=>?_;have l:=Φ f o;refine κ (cQ Z Z Z Z)<|bc Z<|b3 Z Z<|?_;exact⟨by simp[rG],l⟩
theorem aOx(c d:mz)(a:dg)(w:World)(j:dg.fd w c a)(i:dg.fd w d a):
  Calls prog 6 #[.agg ((dg.cells c a).toArray),.agg ((dg.cells d a).toArray)] w (λ e w'=>e=.returned (.bool true)/\Ext w w'):=by
 refine bT (n:=31) func6 Z Z Z ?_;refine cZ Z Z λ x t r v f=>?_;refine gz Z Z λ y u q z g=>?_;have h:=Φ r q;refine aG Z<|ar<|κ (aj xw Z)<|?_;have f:=f.O q;refine κ (aq Z (f.Y [J a.W.am.O,J a.W.am.high,.slice c.a.P a.W.am.G.length c.a.p,.slice c.a.B a.W.aT.length c.a.b,.slice c.a.S a.W.bl.length c.a.s,.slice c.a.M a.W.bE.length c.a.m,.slice c.a.T a.W.ah.length c.a.t,J a.W.next,J a.W.db,.slice c.A c.T.length c.c] Aq rj Z))<|κ (aj xw Z)<|κ (aq Z (g.Y [J a.W.am.O,J a.W.am.high,.slice d.a.P a.W.am.G.length d.a.p,.slice d.a.B a.W.aT.length d.a.b,.slice d.a.S a.W.bl.length d.a.s,.slice d.a.M a.W.bE.length d.a.m,.slice d.a.T a.W.ah.length d.a.t,J a.W.next,J a.W.db,.slice d.A d.T.length d.c] Aq rj Z))<|cf aDJ Z (aOB c.a a.W d.a a.W _ _ _ _ c.T d.T a.L a.L _ (j.W.be h) (i.W.be h) (j.T.be h) (j.L.be h) (i.T.be h) (i.L.be h)) λ A l=>?_;have k:=Φ h l;refine vm Z<|aR Z (λ b=>aj nN Z)<|?_;have f:=f.O l;refine aR Z (λ b=>aq (gt b Z) (f.one p4 Z))<|aR Z (λ b=>aj nN Z)<|?_;have g:=g.O l;refine aR Z (λ b=>aq (gt b Z) (g.one p4 Z))<|iD Z aDK (λ b=>b6 (gt b Z) (b6 (gt b Z) Z)) (λ b=>aOA _ _ _ _ c.U d.U a.S _ (j.U.be k) (j.S.be k) (i.U.be k) (i.S.be k)) λ B o=>?_;have m:=Φ k o;refine κ (cQ Z Z Z Z)<|vm Z<|aR Z (λ b=>aj s9 Z)<|?_;have f:=f.O o;refine aR Z (λ b=>aq (gt b Z) (f.Y [.int .u32 (a.eR:Int),.slice c.C a.V.length c.e] oc ky Z))<|aR Z (λ b=>aj s9 Z)<|?_;have g:=g.O o;refine aR Z (λ b=>aq (gt b Z) (g.Y [.int .u32 (a.eR:Int),.slice d.C a.V.length d.e] oc ky Z))<|iD Z ak0 (λ b=>b6 (gt b Z) (b6 (gt b Z) Z)) (λ b=>aso _ _ _ _ a.eR a.V _ (j.V.be m) (i.V.be m)) λ C p=>?_;have s:=Φ m p;refine κ (cQ Z Z Z Z)<|vm Z<|aR Z (λ b=>aj I8 Z)<|?_;have f:=f.O p;refine aR Z (λ b=>aq (gt b Z) (f.one aH Z))<|aR Z (λ b=>aj I8 Z)<|?_;have g:=g.O p;refine aR Z (λ b=>aq (gt b Z) (g.one aH Z))<|aR Z (λ b=>beq (gt b Z) (gt b Z))<|κ (cQ Z Z Z Z)<|bc Z<|b3 Z Z<|?_;exact⟨by simp[rG],s⟩
end
section
def aUH(aQ size:Nat)(G:Nat->Value->Prop)(w:World)(A:Option Addr)(c:Nat):Prop :=
 (A=none/\c=0)\/∃(b o:Nat) (cur:List Value) (e:TypeId),A=some ⟨b,o,none⟩/\aQ<=b/\aO w b cur e (0,0)/\∀ i,i<c->∃ u,cur[o+i*size]? =some u/\G i u
section
variable{w w':World}{aQ size c i:Nat}{A:Option Addr}{S:List Nat}{G aT9:Nat->Value->Prop}
end
section
variable{w:World}{aQ c i k:Nat}{A:Option Addr}
end
end
end Go.Proofs.YtooonebcoaleiaaGreat
