import Derived.Test.YtooonebcoaleiaaGreatGooI
import Derived.Deep.DeepCutAuto
set_option linter.all false
set_option maxRecDepth 100000
set_option maxHeartbeats 4000000
open Go.RowKit
namespace Go.Proofs.YtooonebcoaleiaaGreat
open Tryz
abbrev baS:=@List.pairwise_iff_getElem
abbrev bcd:=@List.mem_iff_getElem?
abbrev bcq:=@List.cons_append
abbrev bcz:=@Bool.eq_iff_iff
abbrev bc8:=@List.drop_zero
abbrev bdT:=@List.getElem_cons_zero
abbrev bdU:=@List.getElem_cons_succ
abbrev bfL:=@List.pairwise_map
section
variable{d:dm}{c:aw}
def av3:dU prog bb.ce 26 68 56:=dU.O (z:=bb.zero) (k:=7) underlying26 bb.G rfl rfl GP bb.M
def arB(k:Int):0<=ag.kp k/\ag.kp k<=12:=by unfold ag.kp;split<;>(try split)<;>omega
def aej(k:Int):0<=ag.gT k/\ag.gT k<=20:=by unfold ag.gT;split<;>(try split)<;>omega
def apI{k:Int}:(MY k != 0)= !bA k 1 2:=by
 unfold MY;by_cases a:k=1
 .subst a;rfl
 .by_cases b:k=2
  .subst b;rfl
  .rw[ban a,ban b,sw GE];rfl
theorem aG2{W:ag}(b:Good W)(h:(((((decide (d.H<0) || decide ((W.aT.length:Int)<=d.H)) || MY d.Y != 0) || decide (W.bl.getD d.H.toNat 0<ag.kp d.Y)) || decide (100<=(W.ah.length:Int))) || decide (1000000<=W.next))=false):
  0<=d.H/\d.H<(W.aT.length:Int)/\bA d.Y 1 2=true/\ag.kp d.Y<=W.bl.getD d.H.toNat 0/\W.ah.length<100/\W.next<1000000:=by
 simp only[baN,baT,apI,bbK]at h;obtain⟨⟨⟨⟨⟨c,e⟩,a⟩,g⟩,f⟩,i⟩:=h;exact⟨GE,GE,a,GE,GE,GE⟩
def ana{W:ag}(b:Good W)(h:(((((decide (d.H<0) || decide ((W.aT.length:Int)<=d.H)) || MY d.Y != 0) || decide (W.bl.getD d.H.toNat 0<ag.kp d.Y)) || decide (100<=(W.ah.length:Int))) || decide (1000000<=W.next))=true):W.D d=none:=by
 unfold ag.D;rw[ban];intro a;simp only[bai,baF]at a;obtain⟨⟨⟨⟨c1,c2⟩,c3⟩,c4⟩,c5⟩:=a;have c1:=j4 c1;simp only[apI,c2,baY,baF,bcA,ba0,bcH]at h;omega
def am9{W:ag}(a:0<=d.H)(g:d.H<(W.aT.length:Int))(b:bA d.Y 1 2=true)(e:ag.kp d.Y<=W.bl.getD d.H.toNat 0)(c:W.ah.length<100)(f:W.next<1000000):
  (bA d.H 0 ((W.aT.length:Int)-1) && bA d.Y 1 2 && decide (ag.kp d.Y<=W.bl.getD d.H.toNat 0) && decide (W.ah.length<100) && decide (W.next<1000000))=true:=by
 rw[kj a GE,b,baG e,baG c,baG f];rfl
def anb{W:ag}(a:0<=d.H)(b:d.H<(W.aT.length:Int))(c:bA d.Y 1 2=true)(f:ag.kp d.Y<=W.bl.getD d.H.toNat 0)(e:W.ah.length<100)(g:W.next<1000000)(h:(!(W.free (W.aT.getD d.H.toNat default)).isSome)=true):W.D d=none:=by
 unfold ag.D;simp only[am9 a b c f e g,bcj];rw[ba3,Option.isSome_eq_false_iff,Option.isNone_iff_eq_none]at h;rw[h]
theorem aG1{W:ag}(e:0<=d.H)(f:d.H<(W.aT.length:Int))(g:bA d.Y 1 2=true)(j:ag.kp d.Y<=W.bl.getD d.H.toNat 0)(i:W.ah.length<100)(k:W.next<1000000)(a:(W.free (W.aT.getD d.H.toNat default)).getD ⟨0,0⟩=c)(h:(!(W.free (W.aT.getD d.H.toNat default)).isSome)=false):
  W.D d=some {W with ah:=W.ah++ [⟨W.next,d.H,d.Y,c,ag.gT d.Y,0⟩],next:=W.next+1,bl:=W.bl.set d.H.toNat (W.bl.getD d.H.toNat 0-ag.kp d.Y)}:=by
 unfold ag.D;simp only[am9 e f g j i k,bcj];cases b:W.free (W.aT.getD d.H.toNat default)with
 | none=>rw[b]at h;cases h
 | some l=>rw[b]at a;obtain rfl:l=c:=a;rfl
theorem aG0{W:ag}(a:Good W)(g:0<=d.H)(h:d.H<(W.aT.length:Int)):(0<=(W.aT.getD d.H.toNat default).x/\(W.aT.getD d.H.toNat default).x<=100/\0<=(W.aT.getD d.H.toNat default).y/\(W.aT.getD d.H.toNat default).y<=100)/\d.H.toNat<W.aT.length:=by
 have b:d.H.toNat<W.aT.length:=GE
 have:=(a.aT _ _ (cg (u:=default) b)).1;obtain⟨i,j,k,l,m,n⟩:=aE.idx a.am (aE.K this);obtain⟨o,c,e,f,_,_⟩:=aE.hB a.am;exact⟨⟨GE,GE,GE,GE⟩,b⟩
def aEO{W:ag}{p:aw}(d:0<=p.x/\p.x<=100/\0<=p.y/\p.y<=100)(a:(W.free p).getD ⟨0,0⟩=c): -1<=c.x/\c.x<=101/\-1<=c.y/\c.y<=101:=by
 cases b:W.free p with
 | none=>rw[b]at a;subst a;decide
 | some q =>
  rw[b]at a;obtain rfl:q=c:=a;have:=bcN b;simp only[ag.fm,baB,bbM,bcH]at this;rcases this with rfl|rfl|rfl|rfl|rfl|rfl|rfl|rfl|rfl|rfl<;>(try dsimp only)<;>omega
theorem aGY(d:dm)(w:World)(aQ S:Nat)(a:ag.cS)(W:ag)(h:n_ w aQ S a W)(s:Good W):
  Calls prog 135 #[.pointer (bd S),.agg #[J d.O,J d.H,J d.an.x,J d.an.y,J d.Y]] w (zZ W (W.D d) w aQ S a):=by
 have uL:=s.sl;have kT:=h.low;have kz:=h.far;have qV:=h.iI.lt;have f:=h.iI;have g:=h.own;have M:=b4 g.lt;have D7:∀ q∈bF.G a,q=S->False:=λ q I p=>kz (p ▸ I);refine bT (n:=126) func135 Z Z Z ?_;refine cZ Z Z λ kr Aa nz JR k=>?_;have dI:=(Mod.U (S::bF.G a) w).trans (Mod.O nz);have ai:=k.lt;refine aG Z<|ar<|κ (aj I6 Z)<|a1 Z k aH Z<|cf abx Z (aeb d.Y _) λ qs N=>?_;have:=N.size;have gi:=dI.trans (Mod.O N);refine vm Z<|bL Z Z<|bL Z Z<|cy Pw Z λ xW ae ny ak m=>?_;have lM:=gi.trans (Mod.O ny);have am:=m.lt;refine ck Z Z m Z Ap Z Z λ C7 V m=>?_;have:=V.size;have mq:=lM.Y V (λ q I=> .inr (by have:=bah.1 I;omega));refine aG Z<|av<|av<|?_;refine c_ [(1,0),(5,0),(10,0),(23,0),(25,0),(27,0),(29,0),(37,0),(46,0)] [0,1,2,3,4,5,6,7,8,9,10,11,12,13,14,15,16,17,18,19,20,21,22,23,24,25,26,27,28,29,30,31,32,33,34,35,36,37,38,39,40,41,42,43,44,45,46,47,48] ?_;refine aA Z (λ _=>aj r0 Z)<|?_;have k:=(k.O (Φ N ny)).H V aJ;refine cr Z Z k aH Z<|aA Z (λ _=>blt Z Z)<|bt Z Z<|bC Z Z (λ b _=>aj r0 Z)<|cu Z Z (λ b _ x=>aq (gt b Z) ((k.O x).one aH Z))<|ft Z Z Z<|bC Z Z (λ b _=>cB (gt b Z))<|bC Z Z (λ b _=>aj p2 (gt b Z))<|bC Z Z (λ b _=>aj lY (gt b Z))<|?_;have f:=(f.O (Φ nz (Φ N ny))).H V aJ;refine cu Z Z (λ b _ x=>aq (gt b Z) ((f.O x).one lZ Z))<|bC Z Z (λ b _=>bY underlying25 (gt b Z))<|bC Z Z (λ b _=>iV (gt b Z) (gt b Z))<|aA Z (λ _=>dS Z Z Z Z)<|bt Z Z<|ft Z Z Z<|bC Z Z (λ b _=>bne (gt b Z) Z)<|aA Z (λ _=>dS Z Z Z Z)<|bt Z Z<|ft Z Z Z<|bC Z Z (λ b _=>cB (gt b Z))<|bC Z Z (λ b _=>aj p2 (gt b Z))<|bC Z Z (λ b _=>aj oJ (gt b Z))<|cu Z Z (λ b _ x=>aq (gt b Z) ((f.O x).one et Z))<|bC Z Z (λ b _=>aj r0 Z)<|cu Z Z (λ b _ x=>aq (gt b Z) ((k.O x).one aH Z))<|?_;have g:=(g.O (Φ nz (Φ N ny))).H V (bV M);refine bC Z Z (λ b _=>bD d.H.toNat underlying22 cO (gt b Z) (gt b Z) (g.S.bv.Y (aL d.H.toNat (by (try simp only[cb]at b);omega))) (by (try simp only[cb]at b);omega) (by (try simp only[cb]at b);omega))<|cu Z Z (λ b _ x=>aq (gt b Z) (τ.aF.H ew (by rw[<- (g.O x).S.bv.Y (aL d.H.toNat (by (try simp only[cb]at b);omega))];exact(g.O x).S.bv) (cg (l:=W.bl) (u:=0) (by (try simp only[cb]at b);omega)) Z aH))<|bC Z Z (λ b _=>aj aku Z)<|cu Z Z (λ b _ x=>aq (gt b Z) ((m.O x).one aH Z))<|bC Z Z (λ b _=>blt (gt b Z) (gt b Z))<|aA Z (λ _=>dS Z Z Z Z)<|bt Z Z<|ft Z Z Z<|bC Z Z (λ b _=>cB (gt b Z))<|bC Z Z (λ b _=>aj p2 (gt b Z))<|bC Z Z (λ b _=>aj fC (gt b Z))<|cu Z Z (λ b _ x=>aq (gt b Z) ((f.O x).one gR Z))<|bC Z Z (λ b _=>bY underlying26 (gt b Z))<|bC Z Z (λ b _=>iV (gt b Z) Z)<|aA Z (λ _=>dS Z Z Z Z)<|bt Z Z<|ft Z Z Z<|bC Z Z (λ b _=>cB (gt b Z))<|bC Z Z (λ b _=>aj p2 (gt b Z))<|bC Z Z (λ b _=>aj vQ (gt b Z))<|cu Z Z (λ b _ x=>aq (gt b Z) ((f.O x).one aH Z))<|bC Z Z (λ b _=>iV (gt b Z) Z)<|aA Z (λ _=>dS Z Z Z Z)<|fn λ zp A=>?_;have:=A.size;have ka:=mq.trans (Mod.O A);refine a7<|?_;refine dB Z (λ uz=>?_) (λ uz=>?_)
 .refine ar<|bc Z<|bR<|b3 Z Z<|?_;have f:=f.O A;have g:=g.O A;exact⟨a,by rw[ana s uz];rfl,by rw[ana s uz];exact⟨f,g,kz,kT⟩,λ q I=> .inl I,ka⟩
 .obtain⟨aa,D,ay,ba,b2,cL⟩:=aG2 s uz;obtain⟨se,bW⟩:=aG0 s aa D;have ij:=s.bl _ _ (cg (u:=0) (l:=W.bl) (j:=d.H.toNat) GE);obtain⟨c,b⟩:∃ c,(W.free (W.aT.getD d.H.toNat default)).getD ⟨0,0⟩=c:=⟨_,rfl⟩;have ao:=arB d.Y;have au:=j4 ay;have p_:=s.next;have CE:=s.l5;have an:=aEO se b;refine bf<|av<|?_;refine c_ [(5,0),(7,0),(9,0),(10,0),(14,2),(15,3)] [0,1,2,3,4,5,6,7,8,9,10,11,12,13,14,15,16] ?_;refine bt Z Z<|bt Z Z<|aA Z (λ _=>cB Z)<|aA Z (λ _=>aj p2 Z)<|aA Z (λ _=>aj lY Z)<|?_;have f:=f.O A;refine cr Z Z f lZ Z<|aA Z (λ _=>aj r0 Z)<|?_;have k:=k.O A;refine cr Z Z k aH Z<|?_;have g:=g.O A;refine aA Z (λ _=>bD d.H.toNat underlying25 bq Z Z (g.B.bv.Y (aL d.H.toNat)) GE GE)<|dE Z (λ _ x=>aq Z (τ.aF.G ng (by rw[<- (g.O x).B.bv.Y (aL d.H.toNat)];exact(g.O x).B.bv) (cg (l:=W.aT) (u:=default) GE) bS bq))<|nQ Z Z aB7 Z (λ _ x=>aEN (W.aT.getD d.H.toNat default) _ aQ S a W (⟨(f.O x),(g.O x),kz,kT⟩) s se) Z<|bt Z Z<|aA Z (λ _=>ex Z Z)<|aA Z (λ _=>ex Z Z)<|fO Z Z Z λ Bn z Q o=>cy pk Z λ rI TU E az L=>o _ _ ⟨Φ z E,?_⟩;have:=z.size;have lN:=ka.trans (Mod.O z);have ic:=lN.trans (Mod.O E);have ah:=L.lt;refine en Z Z Z λ wN B Q o=>st Z Z (L.O B) Z bq Z Z Z λ sN G L=>o _ _ ?_;have:=B.size;have jD:=ic.trans (Mod.O B);have:=G.size;have ku:=jD.Y G (λ q I=> .inr (by have:=bah.1 I;omega));refine aA Z (λ _=>fh Z)<|fn λ KG C=>?_;have:=C.size;have o3:=ku.trans (Mod.O C);refine a7<|av<|aC Z<|κ (dj Z)<|ax<|?_;refine dB Z (λ X=>?_) (λ X=>?_)
  .refine ar<|bc Z<|bR<|b3 Z Z<|?_;have eF:=sK (oN (Φ z (Φ E B)) G) C;have f:=f.H eF aJ;have g:=g.H eF (bV M);exact⟨a,by rw[anb aa D ay ba b2 cL X];rfl,by rw[anb aa D ay ba b2 cL X];exact⟨f,g,kz,kT⟩,λ q I=> .inl I,o3⟩
  .refine bf<|av<|?_;refine c_ [(5,0),(10,0),(12,0),(14,0),(15,0),(17,0),(19,2),(20,3),(24,3)] [0,1,2,3,4,5,6,7,8,9,10,11,12,13,14,15,16,17,18,19,20,21,22,23,24] ?_;refine bt Z Z<|bt Z Z<|aA Z (λ _=>cB Z)<|aA Z (λ _=>aj p2 Z)<|aA Z (λ _=>aj fC Z)<|?_;have f:=((f.O (Φ z (Φ E B))).H G aJ).O C;refine cr Z Z f gR Z<|bt Z Z<|aA Z (λ _=>cB Z)<|aA Z (λ _=>aj p2 Z)<|aA Z (λ _=>aj vQ Z)<|cr Z Z f aH Z<|aA Z (λ _=>aj r0 Z)<|?_;have k:=((k.O (Φ z (Φ E B))).H G aJ).O C;refine cr Z Z k aH Z<|aA Z (λ _=>aj I6 Z)<|cr Z Z k aH Z<|?_;have L:=L.O C;refine dE Z (λ _ x=>aq Z ((L.O x).all bS bq))<|aA Z (λ _=>aj aB8 Z)<|?_;have m:=((m.O (Φ A (Φ z (Φ E B)))).H G aJ).O C;refine cr Z Z m aH Z<|p5 (v:=.agg #[J W.next,J d.H,J d.Y,J ((((W.free (W.aT.getD d.H.toNat default)).getD ⟨0,0⟩)).x),J ((((W.free (W.aT.getD d.H.toNat default)).getD ⟨0,0⟩)).y),J (ag.gT d.Y),J 0]) Z Z (λ _=>kg Z GT) Z<|fO Z Z Z λ KI F Q o=>cT (e:=68) (cs:=[J W.next,J d.H,J d.Y,J ((((W.free (W.aT.getD d.H.toNat default)).getD ⟨0,0⟩)).x),J ((((W.free (W.aT.getD d.H.toNat default)).getD ⟨0,0⟩)).y),J (ag.gT d.Y),J 0]) Z (λ _=>GT) Z λ xZ vL K Q_ pW=>o _ _ ⟨Φ F K,?_⟩;have:=F.size;have pR:=o3.trans (Mod.O F);have jX:=pR.trans (Mod.O K);have Xi:=pW.lt;have g:=((g.O (Φ z (Φ E B))).H G (bV M)).O (Φ C (Φ F K));refine en Z Z Z λ R7 y Q o=>ap av3 τ.O (g.O y).T ((aO.G (R:=bb.ce) (by_:=56) (q:=(⟨W.next,d.H,d.Y,c,ag.gT d.Y,0⟩:bb)) pW ⟨(by rw[<-b];rfl),b7.2 (by dsimp only;omega),b7.2 (by dsimp only;omega),b7.2 (by dsimp only;omega),b7.2 (by dsimp only;omega),b7.2 (by dsimp only;omega),b7.2 (by dsimp only;have:=aej d.Y;omega),b7.2 (by dsimp only;omega)⟩ GP).be y) Z Z (by simp;omega) (by simp;omega) (by have:=y.size;omega) Z λ KJ SG Gx U OW Jd al=>o _ _ ?_;have:=y.size;have Bz:=jX.trans (Mod.O y);have g:=g.O y;have f:=f.O (Φ F (Φ K y));have vv:=Bz.Y U (λ q I=> .inl (bav _ (th I)));have r:=g.swapT U OW Jd;have Ui:∀ q∈bF.G {a with T:=SG,t:=Gx},q=S->False:=λ q I p=>(alC (aQ:=aQ) (w:=w) (W:=W) I).elim (λ h=>D7 q h p) (λ h=>(Jd q h).elim (λ D=>D7 q (th D) p) (λ D=>GE));have ab:∀ q∈τ.ai a.T,q=S->False:=λ q I p=>by (exact D7 q (th I) p)
   have f:=f.H U (λ I=>ab _ I rfl);refine aA Z (λ _=>cB Z)<|aA Z (λ _=>aj p2 Z)<|aA Z (λ _=>aj fC Z)<|en Z Z Z λ NT O Q o=>ep Z Z (f.O O) Z Eb Z Z λ Fq Y f=>o _ _ ?_;have qy:=vv.trans (Mod.O O);have yl:=qy.Y Y wx;refine fn λ C_ P=>?_;have pT:=yl.trans (Mod.O P);refine a7<|aC Z<|κ (cB Z)<|κ (aj p2 Z)<|κ (aj vQ Z)<|?_;have f:=f.O P;refine a1 Z f aH Z<|fb Z Z<|κ (cB Z)<|κ (aj p2 Z)<|κ (aj vQ Z)<|ep Z Z f Z cO Z Z λ KK kG f=>?_;have qA:=pT.Y kG wx;refine ax<|av<|?_;refine c_ [(4,0),(6,0),(8,0),(10,0),(13,3)] [0,1,2,3,4,5,6,7,8,9,10,11,12,13] ?_;refine bt Z Z<|aA Z (λ _=>cB Z)<|aA Z (λ _=>aj p2 Z)<|aA Z (λ _=>aj oJ Z)<|cr Z Z f et Z<|aA Z (λ _=>aj r0 Z)<|?_;have k:=k.O (Φ F (Φ K y));have GJ:∀ q∈τ.ai a.T,q=Aa->False:=λ q I p=>by (have:=M q (th I);omega)
   have k:=((((k.H U (λ I=>GJ _ I rfl)).O O).H Y aJ).O P).H kG aJ;refine cr Z Z k aH Z<|?_;have r:=(((r.O O).H Y (bM Ui)).O P).H kG (bM Ui);refine aA Z (λ _=>bD d.H.toNat underlying22 cO Z Z (r.S.bv.Y (aL d.H.toNat (by show d.H.toNat<W.bl.length;omega))) GE (by show d.H.toNat<W.bl.length;omega))<|dE Z (λ _ x=>aq Z (τ.aF.H ew (by rw[<- (r.O x).S.bv.Y (aL d.H.toNat (by show d.H.toNat<W.bl.length;omega))];exact(r.O x).S.bv) (cg (l:=W.bl) (u:=0) (by show d.H.toNat<W.bl.length;omega)) Z aH))<|aA Z (λ _=>aj aku Z)<|?_;have m:=m.O (Φ F (Φ K y));have Pr:∀ q∈τ.ai a.T,q=ae->False:=λ q I p=>by (have:=M q (th I);omega)
   have m:=((((m.H U (λ I=>Pr _ I rfl)).O O).H Y aJ).O P).H kG aJ;refine cr Z Z m aH Z<|aA Z (λ _=>hi Z Z dK)<|aA Z (λ _=>bD d.H.toNat underlying22 cO Z Z (r.S.bv.Y (aL d.H.toNat (by show d.H.toNat<W.bl.length;omega))) GE (by show d.H.toNat<W.bl.length;omega))<|en Z Z Z λ aw o1 Q o=>so (q':=W.bl.getD d.H.toNat 0-ag.kp d.Y) (j:=0) (i:=d.H.toNat) (r.O o1).S τ.O (cg (u:=0) (l:=W.bl) GE) Z Z Z Z (λ _ cs h=>by obtain rfl:=ew h;exact⟨rfl,b7.2 GE⟩) Z Z cO λ X' wu af=>o _ _ ?_;have FI:=qA.trans (Mod.O o1);have r:=r.O o1;have f:=f.O o1;have FJ:=FI.Y wu (λ q I=> .inl (bav _ (GR (a:=a) I)));have H:=r.asC wu af;have ad:∀ q∈τ.ai a.S,q=S->False:=λ q I p=>by (exact Ui q (GR I) p)
   have f:=f.H wu (λ I=>ad _ I rfl);refine fn λ KL nx=>?_;have oC:=FJ.trans (Mod.O nx);refine a7<|ar<|bc Z<|b3 Z Z<|?_;have f:=f.O nx;have H:=H.O nx;rw[aG1 aa D ay ba b2 cL b X];exact⟨{a with T:=SG,t:=Gx},Z,⟨by simpa[ag.cells]using f,H.asB rfl rfl rfl rfl rfl ⟨H.nums.1,H.nums.2.1,b7.2 (by show -9223372036854775808<=W.next+1/\W.next+1<=9223372036854775807;omega),H.nums.2.2.2⟩,λ I=>Ui _ I rfl,kT⟩,λ q I=>(alC (aQ:=aQ) (w:=w) (W:=W) I).elim .inl (λ h=>(Jd q h).elim (λ h=> .inl (th h)) (λ h=> .inr GE)),oC⟩
end
theorem aMd(a:ag.cS)(W:ag)(w:World)(bk:ag.fd w a W):
    Calls prog 104 #[.agg (ag.cells a W).toArray] w λ e w'=>∃ a':ag.cS,e=.returned (.agg (ag.cells a' W).toArray)/\bF w' w.heap.size a' W/\Below w.heap.size w w':=by
  obtain⟨gd,hT,hU,gW,gl,gG,ho,hZ,hD,gY⟩:=a;show Calls _ _ #[.agg #[.int .i64 W.am.O,.int .i64 W.am.high,.slice gd W.am.G.length gG,.slice hT W.aT.length ho,.slice hU W.bl.length hZ,.slice gW W.bE.length hD,.slice gl W.ah.length gY,.int .i64 W.next,.int .i64 W.db]] _ _;have du:=nL w (.cells #[.int .i64 W.am.O,.int .i64 W.am.high,.slice gd W.am.G.length gG,.slice hT W.aT.length ho,.slice hU W.bl.length hZ,.slice gW W.bE.length hD,.slice gl W.ah.length gY,.int .i64 W.next,.int .i64 W.db] 28);have hA:=aO.new w [.int .i64 W.am.O,.int .i64 W.am.high,.slice gd W.am.G.length gG,.slice hT W.aT.length ho,.slice hU W.bl.length hZ,.slice gW W.bE.length hD,.slice gl W.ah.length gY,.int .i64 W.next,.int .i64 W.db] 28 (0,0);obtain⟨w0,k8⟩:∃ w0,Hid (w.alloc (.cells #[.int .i64 W.am.O,.int .i64 W.am.high,.slice gd W.am.G.length gG,.slice hT W.aT.length ho,.slice hU W.bl.length hZ,.slice gW W.bE.length hD,.slice gl W.ah.length gY,.int .i64 W.next,.int .i64 W.db] 28)=w0):=⟨_,bag rfl⟩;rw[k8.out]at du;have k6:Hid (aO w0 w.heap.size [.int .i64 W.am.O,.int .i64 W.am.high,.slice gd W.am.G.length gG,.slice hT W.aT.length ho,.slice hU W.bl.length hZ,.slice gW W.bE.length hD,.slice gl W.ah.length gY,.int .i64 W.next,.int .i64 W.db] 28 (0,0)):=by rw[<-k8.out];exact hA
  have aId:w0.heap.size=w.heap.size+1:=by rw[<-k8.out];simp
  have ac6:=nL w0 (.cells #[.int .i64 0,.int .i64 0,.slice none 0 0,.slice none 0 0,.slice none 0 0,.slice none 0 0,.slice none 0 0,.int .i64 0,.int .i64 0] 28);have hR:=aO.new w0 [.int .i64 0,.int .i64 0,.slice none 0 0,.slice none 0 0,.slice none 0 0,.slice none 0 0,.slice none 0 0,.int .i64 0,.int .i64 0] 28 (0,0);rw[aId]at hR;obtain⟨Fu,Zm⟩:∃ Fu,Hid (w0.alloc (.cells #[.int .i64 0,.int .i64 0,.slice none 0 0,.slice none 0 0,.slice none 0 0,.slice none 0 0,.slice none 0 0,.int .i64 0,.int .i64 0] 28)=Fu):=⟨_,bag rfl⟩;rw[Zm.out]at ac6;have eX:Hid (aO Fu (w.heap.size+1) [.int .i64 0,.int .i64 0,.slice none 0 0,.slice none 0 0,.slice none 0 0,.slice none 0 0,.slice none 0 0,.int .i64 0,.int .i64 0] 28 (0,0)):=by rw[<-Zm.out];exact hR
  have k6:=bag (k6.out.O ac6);have du:=du.trans (ac6.mono du.size);have amr:=bk.be du;have DI:=bag (λ V (h:Below Fu.heap.size Fu V)=>vN gd gG W.am.G V (amr.P.be h));have bg:=bag (λ V (h:Below w.heap.size w V)=>Ue hT ho W.aT V (bk.B.be h));have gO:=bag (λ V (h:Below w.heap.size w V)=>vN hU hZ W.bl V (bk.S.be h));have mZ:=bag (λ V (h:Below w.heap.size w V)=>vN gW hD W.bE V (bk.M.be h));have ub:=bag (λ V (h:Below w.heap.size w V)=>LQ gl gY W.ah V (bk.T.be h));have gx:=bag bk.nums;clear bk amr hA;go_enter func104,ntmps104;go_wp2_with fail
  rw[k8.out,Zm.out];go_wp2_with fail
  refine(DI.out _ (baL _ _)).mono ?_;rintro e a8 ⟨cQ,qR,rfl,VW,_,dx⟩;have mF:=k6.out.O dx;obtain⟨cl,c1,c2,c3,c4,c5,eP,fi,fR⟩:=H7 mF;have f2:=mF.free 2 (.inr (ba1 _));have bQ:Below w.heap.size w (a8.setCell ⟨w.heap.size,2,none⟩ (.slice cQ W.am.G.length qR)):=(du.trans (dx.mono du.size)).setCell (p:=⟨w.heap.size,2,none⟩) (bao _) _;have acx:=(eX.out.O dx).el (show w.heap.size+1≠w.heap.size by omega) 2 (.slice cQ W.am.G.length qR);have U9:=mF.set 2 (.slice cQ W.am.G.length qR);have adH:w.heap.size∉τ.ai cQ:=Nk VW (by have:=k6.out.lt;omega);have anU:w.heap.size+1∉τ.ai cQ:=Nk VW (by have:=eX.out.lt;omega);have P0:=VW.el (p:=⟨w.heap.size,2,none⟩) adH (.slice cQ W.am.G.length qR);obtain⟨dn,ahO⟩:∃ dn,Hid (a8.setCell ⟨w.heap.size,2,none⟩ (.slice cQ W.am.G.length qR)=dn):=⟨_,bag rfl⟩;rw[ahO.out]at bQ U9 P0 acx;have P0:=P0.dq (show w.heap.size<=_ from du.size);go_wp2_with fail
  rw[ahO.out];go_wp2_with fail
  clear cl c1 c2 c3 c4 c5 eP fi fR f2 VW mF dx;obtain⟨cl,c1,c2,c3,c4,c5,eP,fi,fR⟩:=H7 U9;have zK:=bag U9;have ahI:=bag P0;have TC:Hid (w.heap.size∉τ.ai cQ):=bag adH;have axx:Hid (w.heap.size+1∉τ.ai cQ):=bag anU;have ahJ:=bag acx;have aYc:=ahJ.out.lt;clear U9 P0 acx adH anU;have Jq:=baL dn.heap.size dn;have aYd:=zK.out.lt
  go_cut [9] (λ _ ox=>ahR w ox cQ qR W gW hD gl gY dn.heap.size)
  case first =>
   go_region_law (first
    | (refine XF rfl 26 _ func26 GT GT _ _ rfl #[.slice hT W.aT.length ho] (by simp[Act.eval,Act.put]) ?_
       refine(bg.out _ bQ.drew).mono ?_;rintro e w3 ⟨fv,pj,rfl,QQ,_,eD⟩;have tr:Below dn.heap.size dn w3:=aiJ Jq eD;have c4:=cell_later tr c4;refine⟨_,Z,?_⟩)
    | (refine XF rfl 25 _ func25 GT GT _ _ rfl #[.slice hU W.bl.length hZ] (by simp[Act.eval,Act.put]) ?_
       refine(gO.out _ (bQ.trans (tr.mono bQ.size))).mono ?_;rintro e xV ⟨fX,pI,rfl,QR,_,eJ⟩;have we:Below dn.heap.size dn xV:=qH tr eJ;obtain⟨d0,d1,d2,d3,d4,d5,d6,d7,d8⟩:=H7 (zK.out.O we);have f3:=(zK.out.O we).free 3 (.inr (ba1 _));have f4:=(zK.out.O we).free 4 (.inr (ba1 _));refine⟨_,Z,?_⟩))
   all_goals
    have amh:=ahJ.out.O we;have alV:=zK.out.O we;have amf:=ahI.out.O we;have alY:=QQ.O eJ;have amB:=bQ.trans (we.mono bQ.size);have Mi:=(alV.set 3 (.slice fv W.aT.length pj)).set 4 (.slice fX W.bl.length pI);have Mm:=(amh.el (show w.heap.size+1≠w.heap.size by omega) 3 (.slice fv W.aT.length pj)).el (show w.heap.size+1≠w.heap.size by omega) 4 (.slice fX W.bl.length pI);have Ml:=(amf.el (p:=⟨w.heap.size,3,none⟩) TC.out (.slice fv W.aT.length pj)).el (p:=⟨w.heap.size,4,none⟩) TC.out (.slice fX W.bl.length pI);have Er:=(alY.el (p:=⟨w.heap.size,3,none⟩) (Nk QQ (by show w.heap.size<dn.heap.size;omega)) (.slice fv W.aT.length pj)).el (p:=⟨w.heap.size,4,none⟩) (Nk QQ (by show w.heap.size<dn.heap.size;omega)) (.slice fX W.bl.length pI);have Mo:=(QR.el (p:=⟨w.heap.size,3,none⟩) (Nk QR (by have:=tr.size;show w.heap.size<w3.heap.size;omega)) (.slice fv W.aT.length pj)).el (p:=⟨w.heap.size,4,none⟩) (Nk QR (by have:=tr.size;show w.heap.size<w3.heap.size;omega)) (.slice fX W.bl.length pI);have qN:Below w.heap.size w ((xV.setCell ⟨w.heap.size,3,none⟩ (.slice fv W.aT.length pj)).setCell ⟨w.heap.size,4,none⟩ (.slice fX W.bl.length pI)):=(amB.setCell (p:=⟨w.heap.size,3,none⟩) (bao _) _).setCell (p:=⟨w.heap.size,4,none⟩) (bao _) _;have c9:Hid (ahR w ((xV.setCell ⟨w.heap.size,3,none⟩ (.slice fv W.aT.length pj)).setCell ⟨w.heap.size,4,none⟩ (.slice fX W.bl.length pI)) cQ qR W gW hD gl gY dn.heap.size):=bag ⟨fv,pj,fX,pI,w3.heap.size,xV.heap.size,Mi,Mm,Ml,Er,Mo,QQ.lt,QR.lt,qN,tr.size,eJ.size,by simp[World.setCell]⟩;clear Mi Mm Ml Er Mo qN QQ QR amh alV amf alY amB tr we eD eJ cl c1 c2 c3 c4 c5 eP fi fR d0 d1 d2 d3 d4 d5 d6 d7 d8 f3 f4 Jq;go_wp2_with fail
    go_meet
    exact c9.out
  case rest =>
    obtain⟨fv,pj,fX,pI,qi,tH,Mi,Mm,Ml,Er,Mo,arV,arW,qN,kn,jh,jx⟩:=hcut;obtain⟨tO,awD⟩:∃ tO:World,Hid (tO=wc):=⟨wc,bag rfl⟩;rw[<-awD.out]at Mi Mm Ml Er Mo qN jx ⊢;have axE:=bag ahI.out.lt;have TD:=bag arV;have TE:=bag arW;have awu:=bag Ml;have av7:=bag Er;have awB:=bag Mo;have awx:=bag Mm;have Dx:=bag Mi;clear Mi Mm Ml Er Mo arV arW cl c1 c2 c3 c4 c5 eP fi fR Jq;obtain⟨cl,c1,c2,c3,c4,c5,eP,fi,fR⟩:=H7 Dx.out;have Jq:=baL tO.heap.size tO;go_wp2_with fail
    go_region_law (first
      | (refine XF rfl 25 _ func25 GT GT _ _ rfl #[.slice gW W.bE.length hD] (by simp[Act.eval,Act.put]) ?_
         refine(mZ.out _ qN.drew).mono ?_;rintro e X1 ⟨qb,rA,rfl,MP,_,Mt⟩;have Qg:Below tO.heap.size tO X1:=aiJ Jq Mt;have eP:=cell_later Qg eP;refine⟨_,Z,?_⟩)
      | (refine XF rfl 27 _ func27 GT GT _ _ rfl #[.slice gl W.ah.length gY] (by simp[Act.eval,Act.put]) ?_
         refine(ub.out _ (qN.trans (Qg.mono qN.size))).mono ?_;rintro e aga ⟨qo,rF,rfl,MQ,_,Jo⟩;have CD:Below tO.heap.size tO aga:=qH Qg Jo;obtain⟨d0,d1,d2,d3,d4,d5,d6,d7,d8⟩:=H7 (Dx.out.O CD);have f5:=(Dx.out.O CD).free 5 (.inr (ba1 _));have f6:=(Dx.out.O CD).free 6 (.inr (ba1 _));refine⟨_,Z,?_⟩))
    all_goals
      have aID:=Qg.size;have aGq:=qN.trans (CD.mono qN.size);have eb:w.heap.size<X1.heap.size:=GE
      have fo:w.heap.size<tO.heap.size:=GE
      have acn:=((Dx.out.O CD).set 5 (.slice qb W.bE.length rA)).set 6 (.slice qo W.ah.length rF);have acy:=((awx.out.O CD).el (show w.heap.size+1≠w.heap.size by omega) 5 (.slice qb W.bE.length rA)).el (show w.heap.size+1≠w.heap.size by omega) 6 (.slice qo W.ah.length rF);have acw:=((awu.out.O CD).el (p:=⟨w.heap.size,5,none⟩) TC.out (.slice qb W.bE.length rA)).el (p:=⟨w.heap.size,6,none⟩) TC.out (.slice qo W.ah.length rF);have acp:=((av7.out.O CD).el (p:=⟨w.heap.size,5,none⟩) (λ h=>by have:=(TD.out _ h).1;simp at this;omega) (.slice qb W.bE.length rA)).el (p:=⟨w.heap.size,6,none⟩) (λ h=>by have:=(TD.out _ h).1;simp at this;omega) (.slice qo W.ah.length rF);have P2:=((awB.out.O CD).el (p:=⟨w.heap.size,5,none⟩) (λ h=>by have:=(TE.out _ h).1;simp at this;omega) (.slice qb W.bE.length rA)).el (p:=⟨w.heap.size,6,none⟩) (λ h=>by have:=(TE.out _ h).1;simp at this;omega) (.slice qo W.ah.length rF);have acv:=((MP.O Jo).el (p:=⟨w.heap.size,5,none⟩) (λ h=>by have:=(MP.lt _ h).1;simp at this;omega) (.slice qb W.bE.length rA)).el (p:=⟨w.heap.size,6,none⟩) (λ h=>by have:=(MP.lt _ h).1;simp at this;omega) (.slice qo W.ah.length rF);have acz:=(MQ.el (p:=⟨w.heap.size,5,none⟩) (λ h=>by have:=(MQ.lt _ h).1;simp at this;omega) (.slice qb W.bE.length rA)).el (p:=⟨w.heap.size,6,none⟩) (λ h=>by have:=(MQ.lt _ h).1;simp at this;omega) (.slice qo W.ah.length rF);have Mu:Below w.heap.size w ((aga.setCell ⟨w.heap.size,5,none⟩ (.slice qb W.bE.length rA)).setCell ⟨w.heap.size,6,none⟩ (.slice qo W.ah.length rF)):=(aGq.setCell (p:=⟨w.heap.size,5,none⟩) (bao _) _).setCell (p:=⟨w.heap.size,6,none⟩) (bao _) _;have jt:(τ.ai cQ++τ.ai fv++τ.ai fX++τ.ai qb++τ.ai qo).Nodup:=by
        have aa:=TN (m:=qi) ⟨yC cQ,λ g aW=>(axE.out g aW).2⟩ (yC fv) TD.out kn;have ab:=TN aa (yC fX) TE.out jh;have ay:=TN (n:=tO.heap.size) (m:=X1.heap.size) ⟨ab.1,λ g aW=>by have:=ab.2 g aW;omega⟩ (yC qb) MP.lt aID;exact(TN ay (yC qo) MQ.lt (by have:=Jo.size;omega)).1
      obtain⟨R3,awE⟩:∃ R3,Hid ((aga.setCell ⟨w.heap.size,5,none⟩ (.slice qb W.bE.length rA)).setCell ⟨w.heap.size,6,none⟩ (.slice qo W.ah.length rF)=R3):=⟨_,bag rfl⟩;rw[awE.out]at Mu acn acy acw acp P2 acv acz ⊢;have awf:=bag (show bF R3 w.heap.size ⟨cQ,fv,fX,qb,qo,qR,pj,pI,rA,rF⟩ W from⟨acw,acp.dq (by show w.heap.size<=dn.heap.size;omega),P2.dq GE,acv.dq (by show w.heap.size<=tO.heap.size;omega),acz.dq GE,jt,gx.out⟩);have awo:Hid (w.heap.size+1∉bF.G ⟨cQ,fv,fX,qb,qo,qR,pj,pI,rA,rF⟩):=bag (λ h=>by
        unfold bF.G at h;simp only[bas]at h;rcases h with(((h|h)|h)|h)|h
        · exact axx.out h
        · have:=(TD.out _ h).1;omega
        · have:=(TE.out _ h).1;omega
        · have:=(MP.lt _ h).1;(try simp at this);omega
        · have:=(MQ.lt _ h).1;(try simp at this);omega)
      have Zh:=bag acy;have av6:Hid (aO R3 w.heap.size [.int .i64 W.am.O,.int .i64 W.am.high,.slice cQ W.am.G.length qR,.slice fv W.aT.length pj,.slice fX W.bl.length pI,.slice qb W.bE.length rA,.slice qo W.ah.length rF,.int .i64 W.next,.int .i64 W.db] 28 (0,0)):=bag acn;clear acn acy acw acp P2 acv acz jt MP MQ Jo Mt CD Qg cl c1 c2 c3 c4 c5 eP fi fR d0 d1 d2 d3 d4 d5 d6 d7 d8 f5 f6;obtain⟨cl,c1,c2,c3,c4,c5,eP,fi,fR⟩:=H7 av6.out;obtain⟨e0,bm,bw,dD,ly,Pt,Pu,akn,ako⟩:=H7 Zh.out;have aD:=λ j=>Zh.out.free j (.inr (ba1 _));have aWz:=aD 0;have aWA:=aD 1;have aWB:=aD 2;have aWC:=aD 3;have aWD:=aD 4;have aWE:=aD 5;have aWF:=aD 6;have aWG:=aD 7;have aWH:=aD 8;clear aD;go_wp2_with fail
      obtain⟨agb,awF⟩:∃ agb,Hid ((((((((((R3.setCell ⟨w.heap.size+1,0,none⟩ (.int .i64 W.am.O)).setCell ⟨w.heap.size+1,1,none⟩ (.int .i64 W.am.high)).setCell ⟨w.heap.size+1,2,none⟩ (.slice cQ W.am.G.length qR)).setCell ⟨w.heap.size+1,3,none⟩ (.slice fv W.aT.length pj)).setCell ⟨w.heap.size+1,4,none⟩ (.slice fX W.bl.length pI)).setCell ⟨w.heap.size+1,5,none⟩ (.slice qb W.bE.length rA)).setCell ⟨w.heap.size+1,6,none⟩ (.slice qo W.ah.length rF)).setCell ⟨w.heap.size+1,7,none⟩ (.int .i64 W.next)).setCell ⟨w.heap.size+1,8,none⟩ (.int .i64 W.db))=agb):=⟨_,bag rfl⟩;have ami:=aLy Zh.out (.int .i64 W.am.O) (.int .i64 W.am.high) (.slice cQ W.am.G.length qR) (.slice fv W.aT.length pj) (.slice fX W.bl.length pI) (.slice qb W.bE.length rA) (.slice qo W.ah.length rF) (.int .i64 W.next) (.int .i64 W.db);have ame:=awf.out.nine awo.out (.int .i64 W.am.O) (.int .i64 W.am.high) (.slice cQ W.am.G.length qR) (.slice fv W.aT.length pj) (.slice fX W.bl.length pI) (.slice qb W.bE.length rA) (.slice qo W.ah.length rF) (.int .i64 W.next) (.int .i64 W.db);have Vr:=ay3 Mu (show w.heap.size<=w.heap.size+1 by omega) (.int .i64 W.am.O) (.int .i64 W.am.high) (.slice cQ W.am.G.length qR) (.slice fv W.aT.length pj) (.slice fX W.bl.length pI) (.slice qb W.bE.length rA) (.slice qo W.ah.length rF) (.int .i64 W.next) (.int .i64 W.db);rw[awF.out]at ami ame Vr ⊢;obtain⟨v0,v1,v2,v3,v4,v5,v6,aQC,aQD⟩:=H7 ami;refine beH (v:=.agg #[.int .i64 W.am.O,.int .i64 W.am.high,.slice cQ W.am.G.length qR,.slice fv W.aT.length pj,.slice fX W.bl.length pI,.slice qb W.bE.length rA,.slice qo W.ah.length rF,.int .i64 W.next,.int .i64 W.db]) ?_ Z ⟨⟨cQ,fv,fX,qb,qo,qR,pj,pI,rA,rF⟩,Z,ame,Vr⟩;simp[results,results104,go_sem,v0,v1,v2,v3,v4,v5,v6,aQC,aQD]
section
variable{d:dm}{w a8:World}{aQ S:Nat}{a:ag.cS}{l:List dm}
def av4:dU prog xO 104 4 1:=dU.O (z:=.bool false) (k:=1) underlying104 GT rfl rfl GP (λ j u h=>afk j u h)
def ag.aj5{W:ag}(h:d.O=1):W.Y d=W.C d:=by unfold ag.Y;rw[bap h]
def ag.aj3{W:ag}(h:d.O=2):W.Y d=W.drop d:=by unfold ag.Y;rw[ban GE,bap h]
def ag.aj4{W:ag}(h:d.O=3):W.Y d=W.D d:=by unfold ag.Y;rw[ban GE,ban GE,bap h]
def ag.aj6{W:ag}(a:¬d.O=1)(b:¬d.O=2)(c:¬d.O=3):W.Y d=none:=by unfold ag.Y;rw[ban a,ban b,ban c]
def aaV{W:ag}{V:Option ag}{f:FuncId}{args:Array Value}(h:Calls prog f args a8 (zZ W V a8 aQ S a))(x:Ext w a8):Calls prog f args a8 (zZ W V w aQ S a):=
 h.mono λ e j ⟨b,c,d,g,i⟩=>⟨b,c,d,λ q I=>(g q I).imp id λ h=>bay x.size h,(Mod.O x).trans i⟩
def aKX(d:dm)(w:World)(aQ S:Nat)(a:ag.cS)(W:ag)(h:n_ w aQ S a W)(c:Good W):Calls prog 133 #[.pointer (bd S),.agg #[J d.O,J d.H,J d.an.x,J d.an.y,J d.Y]] w (zZ W (W.C d) w aQ S a):=by
 cases b:W.ah.findIdx? (je d.H)with
 | none=>exact aKW d w aQ S a W h c b
 | some k=>obtain⟨t,e,_⟩:=L' b;exact aKV d w aQ S a W h c k t b e
def aBL(d:dm)(w:World)(aQ S:Nat)(a:ag.cS)(W:ag)(h:n_ w aQ S a W)(c:Good W):Calls prog 134 #[.pointer (bd S),.agg #[J d.O,J d.H,J d.an.x,J d.an.y,J d.Y]] w (zZ W (W.drop d) w aQ S a):=by
 cases b:W.ah.findIdx? (je d.H)with
 | none=>exact aBG d w aQ S a W h c b
 | some k=>obtain⟨t,e,_⟩:=L' b;exact drop2 d w aQ S a W h c k t b e
def aGZ(d:dm)(w:World)(aQ S:Nat)(a:ag.cS)(W:ag)(h:n_ w aQ S a W)(b:Good W):Calls prog 135 #[.pointer (bd S),.agg #[J d.O,J d.H,J d.an.x,J d.an.y,J d.Y]] w (zZ W (W.D d) w aQ S a):=aGY d w aQ S a W h b
def n_.H{W:ag}{T:List Nat}(h:n_ w aQ S a W)(m:Mod T w a8)(b:∀ q∈T,q≠S/\q∉bF.G a):n_ a8 aQ S a W :=
 ⟨h.iI.H m λ I=>(b _ I).1 rfl,h.own.H m λ q I c=>(b q c).2 I,h.far,h.low⟩
def ag.z(W:ag)(l:List dm):Int:=if W.br≠0 then W.br else if 200<l.length then 2 else 0
def ag.L(W:ag)(l:List dm):ag:=if W.z l=0 then(W.O l).1 else ag.zero
def ag.B(W:ag)(l:List dm):List Bool:=if W.z l=0 then(W.O l).2 else[]
def avF(W:ag)(l:List dm)(w:World)(e:Ending)(w':World):Prop :=
 ∃ a A c,e=.returned (.tuple #[.agg (ag.cells a (W.L l)).toArray,.slice A (W.B l).length c,J (W.z l)])/\bF w' w.heap.size a (W.L l)/\xO.aM 4 1 w' w.heap.size (τ.ai A) A c (W.B l)/\(∀ q∈τ.ai A,q∉bF.G a)/\Ext w w'
def akf{W:ag}(h:¬W.br=0):W.L l=ag.zero/\W.B l=[]/\W.z l=W.br:=by
 have a:W.z l=W.br:=by unfold ag.z;rw[bap h]
 unfold ag.L ag.B;rw[a,ban h,ban h];exact⟨Z,Z,Z⟩
def akg{W:ag}(h:W.br=0)(a:200<l.length):W.L l=ag.zero/\W.B l=[]/\W.z l=2:=by
 have b:W.z l=2:=by unfold ag.z;rw[ban (by simpa using h),bap a]
 unfold ag.L ag.B;rw[b];exact⟨Z,Z,Z⟩
def aa3{W:ag}(h:W.br=0)(a:l.length<=200):W.z l=0:=by unfold ag.z;rw[ban (by simpa using h),ban GE]
def aa1{W:ag}(h:W.br=0)(a:l.length<=200):W.L l=(W.O l).1:=by unfold ag.L;rw[bap (aa3 h a)]
def aa2{W:ag}(h:W.br=0)(a:l.length<=200):W.B l=(W.O l).2:=by unfold ag.B;rw[bap (aa3 h a)]
def aBf(W:ag)(l:List dm)(d:dm):W.O (l++ [d])=(((W.O l).1.Y d).getD (W.O l).1,(W.O l).2++ [((W.O l).1.Y d).isSome]):=by
 induction l generalizing W with
 | nil=>simp only[bcy,ag.O];cases W.Y d<;>rfl
 | cons x r a =>
  simp only[bcq,ag.O];cases W.Y x with
  | none=>simp only[a];rfl
  | some V=>simp only[a];rfl
def aaW{W:ag}{k:Nat}(a:k<l.length):W.O (l.take (k+1))=(((W.O (l.take k)).1.Y (l.getD k default)).getD (W.O (l.take k)).1,(W.O (l.take k)).2++ [((W.O (l.take k)).1.Y (l.getD k default)).isSome]):=by
 rw[<-aBf,baI a];congr 3;rw[baa,bac a];rfl
def aBe(W:ag)(l:List dm):(W.O l).2.length=l.length:=by
 induction l generalizing W with
 | nil=>rfl
 | cons x r a =>
  simp only[ag.O];cases W.Y x with
  | none=>simp only[baj,a]
  | some V=>simp only[baj,a]
theorem aBd(d:dm)(w:World)(aQ S:Nat)(a:ag.cS)(W:ag)(h:n_ w aQ S a W)(k:Good W):
  Calls prog 105 #[.pointer (bd S),.agg #[J d.O,J d.H,J d.an.x,J d.an.y,J d.Y]] w (zZ W (W.Y d) w aQ S a):=by
 refine bT (n:=22) func105 Z Z Z ?_;refine cZ Z Z λ u s b t j=>?_;have l:=b;refine aG Z<|av<|ar<|κ (aj akv Z)<|a1 Z j aH Z<|ax<|bp<|ar<|κ (beq Z Z)<|aG Z<|?_;refine j1 Z (λ p=>?_) (λ p=>?_)
 .refine aC Z<|κ (aq Z (j.all Ed vR))<|ca aB9 Z Z ((aaV (aKX d _ aQ S a W (h.O b) k) l).mono ?_);rintro e v ⟨c,rfl,f,g,i⟩;refine cR ?_;refine bc Z<|dO<|bR<|b3 Z Z<|?_;exact⟨c,by rw[ag.aj5 ‹_›];rfl,by rw[ag.aj5 ‹_›];exact f,g,i⟩
 .refine ar<|κ (beq Z Z)<|aG Z<|?_;refine j1 Z (λ m=>?_) (λ m=>?_)
  .refine aC Z<|κ (aq Z (j.all Ed vR))<|ca aCa Z Z ((aaV (aBL d _ aQ S a W (h.O b) k) l).mono ?_);rintro e x ⟨c,rfl,f,g,i⟩;refine cR ?_;refine bc Z<|dO<|bR<|b3 Z Z<|?_;exact⟨c,by rw[ag.aj3 ‹_›];rfl,by rw[ag.aj3 ‹_›];exact f,g,i⟩
  .refine ar<|κ (beq Z Z)<|aG Z<|?_;refine j1 Z (λ o=>?_) (λ o=>?_)
   .refine aC Z<|κ (aq Z (j.all Ed vR))<|ca aCb Z Z ((aaV (aGZ d _ aQ S a W (h.O b) k) l).mono ?_);rintro e r ⟨c,rfl,f,g,i⟩;refine cR ?_;refine bc Z<|dO<|bR<|b3 Z Z<|?_;exact⟨c,by rw[ag.aj4 ‹_›];rfl,by rw[ag.aj4 ‹_›];exact f,g,i⟩
   .refine dP<|bK<|a7<|ar<|bc Z<|b3 Z Z<|?_;exact⟨a,by rw[ag.aj6 ‹_› ‹_› ‹_›];rfl,by rw[ag.aj6 ‹_› ‹_› ‹_›];exact h.O b,λ q I=> .inl I,Mod.O b⟩
theorem aBs(l:List dm)(A:Option Addr)(c:Nat)(w:World)(a:ag.cS)(W:ag)(bk:ag.fd w a W)(P:dm.ce.aF 40 w A c l):
  Calls prog 72 #[.agg ((ag.cells a W).toArray),.slice A l.length c] w (avF W l w):=by
 refine bT (n:=40) func72 Z Z Z ?_;refine cZ Z Z λ ch a6 aV cY p=>?_;have gp:=p.lt;refine cy nO Z λ dr Q bh fl b=>?_;have bo:=Φ aV bh;have j8:=b.lt;refine va Z<|aG Z<|av<|ar<|?_;have p:=p.O bh;refine κ (aq Z (p.all cD bP))<|cf L7 Z (Gz a W _ (bk.be bo)) λ U r=>?_;have:=r.size;have H:=Φ bo r;refine aG Z<|aC Z<|cV Z Z<|ax<|?_;refine fr Z (λ m=>?_) (λ m=>?_)
 .refine ar<|κ (v:=.agg #[J 0,J 0,.slice none 0 0,.slice none 0 0,.slice none 0 0,.slice none 0 0,.slice none 0 0,J 0,J 0]) (ee Z)<|vm Z<|?_;have b:=b.O r;refine ck Z Z b Z bP Z Z λ C7 sF b=>?_;have mq:=Ext.H H sF bn;refine va Z<|bc Z<|bR<|cJ (.cell Z (b.all cD bP) (.tmp Z (.tmp Z .nil)))<|?_;obtain⟨t,x,S⟩:=akf ‹_›;exact⟨⟨none,none,none,none,none,0,0,0,0,0⟩,none,0,by rw[t,x,S];rfl,by rw[t];exact bF.zero _ _,by rw[x];exact τ.aM.nil _,λ q I=>by simp[τ.ai]at I,mq⟩
 .have aZ:=Good.G m;refine bf<|av<|aC Z<|κ (bY underlying140 Z)<|κ (gy Z Z)<|ax<|?_;refine c7 Z (λ uy=>?_) (λ uy=>?_)
  .refine ar<|κ (v:=.agg #[J 0,J 0,.slice none 0 0,.slice none 0 0,.slice none 0 0,.slice none 0 0,.slice none 0 0,J 0,J 0]) (ee Z)<|?_;have b:=b.O r;refine ck Z Z b Z bP Z Z λ wM HA b=>?_;have l8:=Ext.H H HA bn;refine va Z<|bc Z<|bR<|cJ (.cell Z (b.all cD bP) (.tmp Z (.tmp Z .nil)))<|?_;obtain⟨t,x,S⟩:=akg (W:=W) (l:=l) m GE;exact⟨⟨none,none,none,none,none,0,0,0,0,0⟩,none,0,by rw[t,x,S];rfl,by rw[t];exact bF.zero _ _,by rw[x];exact τ.aM.nil _,λ q I=>by simp[τ.ai]at I,l8⟩
  .refine bf<|ar<|?_;have p:=p.O r;refine κ (aq Z (p.all cD bP))<|ca aCc Z Z ((aMd a W _ (bk.be H)).mono ?_);rintro e rI ⟨f,rfl,G,T⟩;refine cR ?_;have:=T.size;have ic:=Φ H T;have C4:=b4 G.lt;refine κ (v:=.agg #[J W.am.O,J W.am.high,.slice f.P W.am.G.length f.p,.slice f.B W.aT.length f.b,.slice f.S W.bl.length f.s,.slice f.M W.bE.length f.m,.slice f.T W.ah.length f.t,J W.next,J W.db]) (ee Z)<|cy aCd Z λ xX o X al mX=>?_;have lu:=Φ ic X;refine ck Z Z mX Z aCe Z Z λ sN Y mX=>?_;have ku:=Ext.H lu Y bn;refine ax<|ar<|aG Z<|av<|aC Z<|κ (bY underlying140 Z)<|vm Z<|ax<|bp<|?_;have G:=(G.O X).H Y (bV C4);have d:n_ sN U.heap.size o f W:=⟨mX,G,λ I=>by have:=C4 _ I;omega,GE⟩;have b:=(b.O (Φ r (Φ T X))).H Y aJ;refine di (λ bJ bH F=>∃ k:Nat,∃ s:ag.cS,∃ j:Option Addr,∃ D:Nat,bH=[(4,.pointer (bd Q)),(5,.slice none 0 0),(6,J 0),(8,.pointer (bd o)),(9,.slice j ((W.O (l.take k)).2.length) D),(25,.slice A l.length c),(26,J (l.length:Int)),(27,J (k:Int))]/\bJ=l.length-k/\Ext w F/\aO F Q [J 0,J 0,.slice none 0 0,.slice none 0 0,.slice none 0 0,.slice none 0 0,.slice none 0 0,J 0,J 0] 28 (0,0)/\n_ F U.heap.size o s (W.O (l.take k)).1/\xO.aM 4 1 F w.heap.size (τ.ai j) j D (W.O (l.take k)).2/\(k<=l.length)/\(∀ q∈τ.ai j,q≠o/\q∉bF.G s)/\(∀ q∈τ.ai j,q=Q->False)) _ _ ⟨0,f,none,0,Z,Z,ku,b,d,(τ.aM.nil _),GE,λ q I=>by simp[τ.ai]at I,(λ q I ae=>by (simp[τ.ai]at I))⟩ (c' Z Z Z) ?_;rintro mI ak KG ⟨k,s,j,D,rfl,rfl,B,b,d,g,au,y,N⟩;have af:=b.lt;have HX:=b4 g.lt;have E:=λ q I=>(d.own.lt q I).2;have Mv:=d.iI.lt;have MA:(W.O (l.take k)).2.length=k:=by rw[aBe,baf];omega
   refine ar<|cF Z Z<|ax<|av<|?_;refine c7 Z (λ xz=>?_) (λ xz=>?_)
   .refine bf<|av<|bp<|ar<|κ (bD k underlying140 vR Z Z ((P.be B).Y (aL k)) Z GE)<|κ (aq Z (τ.aF.G amK (by rw[<- (P.be B).Y (aL k)];exact(P.be B)) (cg (l:=l) (u:=default) GE) Ed vR))<|cy aa6 Z λ H6 IU K am C=>?_;have sR:=Φ B K;have Xi:=C.lt;refine ck Z Z C Z vR Z Z λ R7 z C=>?_;have:=z.size;have Bz:=Ext.H sR z bn;refine ax<|rg<|vm Z<|κ (aq Z (C.all Ed vR))<|?_;have d:=(d.O K).H z (λ q I=>by rw[bah.1 I];exact⟨GE,λ i=>by have:=E _ i;have:=(d.own.lt _ i).1;omega⟩);have g:=(g.O K).H z (bV HX);refine ca aCf Z Z ((aBd (l.getD k default) _ U.heap.size o s (W.O (l.take k)).1 d (aZ.O _)).mono ?_);rintro e NR ⟨O,rfl,Iy,i,M⟩;refine cR ?_;have hu:=b4 g.lt;have:=M.size;have vw:=Ext.H Bz M (λ q I=>(baB.1 I).elim (λ h=>by rw[h];omega) (λ h=>by have:=(d.own.lt q h).1;omega));have ED:∀ q∈τ.ai j,q≠o/\q∉bF.G O:=λ q I=>⟨(y q I).1,λ h=>(i q h).elim (y q I).2 (λ h=>by have:=hu q I;omega)⟩;have ad:=d;have d:=Iy;have E:=λ q I=>(d.own.lt q I).2;refine cT (e:=4) (cs:=[.bool (((W.O (l.take k)).1.Y (l.getD k default)).isSome)]) Z (λ _=>GT) Z λ Fm ao L ah Og=>?_;have nC:=Φ vw L;have an:=Og.lt;have g:=(g.H M (λ q I h=>(baB.1 h).elim (y q I).1 (y q I).2)).O L;refine ap av4 τ.O g (aO.G (R:=xO) (by_:=1) (q:=((W.O (l.take k)).1.Y (l.getD k default)).isSome) Og ⟨Z,trivial⟩ GP) Z Z (by simp only[baj,baq];omega) (by simp only[baj,baq];omega) nC.size Z λ R9 SH aa mJ ZL U2 ai=>?_;have BA:=Ext.H nC mJ (λ q I=>(g.lt q I).1);have ab:∀ q∈τ.ai SH,q≠o/\q∉bF.G O:=λ q I=>(U2 q I).elim (ED q) (λ h=>⟨GE,λ i=>by have:=E q i;omega⟩);refine va Z<|nl<|bK<|cW Z Z Z<|?_;have b:=((((b.O K).H z aJ).H M (λ h=>(baB.1 h).elim (λ h=>GE) (λ h=>by have:=(ad.own.lt _ h).1;omega))).O L).H mJ (λ I=>N _ I rfl);have d:=(d.O L).H mJ (λ q I=>ED q I);exact oR _ _ ⟨k+1,O,SH,aa,Z,Z,BA,b,(by rw[aaW (by omega:k<l.length)];exact d),(by rw[aaW (by omega:k<l.length)];exact ZL),GE,ab,(eh U2 N)⟩ GE (.cons Z (.cons Z (.cons Z (.cons Z (.cons (by rw[aaW (by omega:k<l.length)];rfl) (c' Z Z Z))))))
   .refine cI<|cH<|cU<|cG<|a7<|ar<|κ (aj p2 Z)<|κ (aq Z (d.iI.all cD bP))<|vm Z<|st Z Z b Z bP Z Z Z λ KK V b=>?_;have qA:=Ext.H B V bn;refine va Z<|bc Z<|cJ (.cell Z (b.all cD bP) (.tmp Z (.tmp Z .nil)))<|?_;have d:=d.H V (λ q I=>by rw[bah.1 I];exact⟨GE,λ i=>by have:=E _ i;have:=(d.own.lt _ i).1;omega⟩);have g:=g.H V (bM N);obtain rfl:k=l.length:=GE
    refine⟨s,j,D,?_,?_,?_,λ q I=>(y q I).2,qA⟩
    .rw[aa1 m GE,aa2 m GE,aa3 m GE,ba7];rfl
    .rw[aa1 m GE];rw[ba7]at d;exact d.own.dq GE
    .rw[aa2 m GE];rw[ba7]at g;exact g
end
def wt(t:bb):Int:=t.load+ag.kp t.O
def ag.total(W:ag):Int:=W.bE.sum+W.bl.sum+(W.ah.map wt).sum
def ag.a3J(W:ag):Int:=if W.br=0 then W.total else 0
section
variable{α:Type}
def avY:yp prog aw.cells 41 :=by
 intro a b w;obtain⟨a0,dQ⟩:=a;obtain⟨z8,hh⟩:=b;simp only[aw.cells,aw.mk.injEq];constructor
 .go_simp
  repeat' split
  all_goals simp_all
 .go_simp
  repeat' split
  all_goals simp_all
def avW:(prog).eqGuardType (prog).depth 41 =false:=GT
def avZ:yp prog bb.cells 68 :=by
 intro a b w;obtain⟨a0,dQ,a2,⟨a3,a4⟩,a5,Gj⟩:=a;obtain⟨z8,hh,eZ,⟨ig,yA⟩,IQ,Z9⟩:=b;simp only[bb.cells,bb.mk.injEq,aw.mk.injEq];constructor
 .go_simp
  repeat' split
  all_goals simp_all
 .go_simp
  repeat' split
  all_goals simp_all
def avX:(prog).eqGuardType (prog).depth 68 =false:=GT
def PC{l m:List α}{k:Nat}(b:l.length=m.length)(c:l.length<=k)(h:∀ j,j<k->l[j]? =m[j]?):l=m:=by
 apply bbB;intro j;by_cases a:j<k
 .exact h j a
 .rw[baX GE,baX GE]
def Rq[DecidableEq α]{a b:α}(h:(!decide (a=b))=true):¬a=b:=by simpa using h
def PD[DecidableEq α]{a b:α}(h:(!decide (a=b))=false):a=b:=by simpa using h
theorem aEe(A B:Option Addr)(c d F E:Nat)(l m:List aw)(w:World)(f:aw.ce.aF F w A c l)(h:aw.ce.aF E w B d m):
  Calls prog 74 #[.slice A l.length c,.slice B m.length d] w (λ e w'=>e=.returned (.bool (decide (l=m)))/\Ext w w'):=by
 have G:=f.M;refine bT (n:=26) func74 Z Z Z ?_;refine ar<|aG Z<|av<|aC Z<|κ (bY underlying25 Z)<|vm Z<|κ (bY underlying25 Z)<|cV Z Z<|ax<|?_;refine fr Z (λ t=>?_) (λ t=>?_)
 .refine ar<|bc Z<|bR<|b3 Z Z<|?_;rw[baA (λ e=>t (by rw[e]))];exact⟨Z,(Ext.U w)⟩
 .refine bf<|av<|aC Z<|κ (bY underlying25 Z)<|vm Z<|ax<|bp<|?_;refine di (λ D C z=>∃ k:Nat,C=[(0,.slice A l.length c),(1,.slice B m.length d),(12,J (l.length:Int)),(13,J (k:Int))]/\D=l.length-k/\Ext w z/\(k<=l.length)/\(∀ j,j<k->l[j]? =m[j]?)) _ _ ⟨0,Z,Z,(Ext.U w),GE,λ j y=>absurd y GE⟩ (c' Z Z Z) ?_;rintro M L O ⟨k,rfl,rfl,a,N,r⟩;have G:=f.M;refine ar<|cF Z Z<|ax<|av<|?_;refine c7 Z (λ H=>?_) (λ H=>?_)
  .obtain⟨s,b⟩:=iK (l:=l) (i:=k) GE;obtain⟨v,o⟩:=iK (l:=m) (i:=k) GE;refine bf<|av<|bp<|aC Z<|aG Z<|av<|?_;refine c_ [(3,0),(7,0)] [0,1,2,3,4,5,6,7,8] ?_;refine bt Z Z<|bt Z Z<|aA Z (λ _=>bD k underlying25 bq Z Z ((f.be a).Y (aL k)) Z GE)<|dE Z (λ _ x=>aq Z (τ.aF.G ng (by rw[<- (f.be (Φ a x)).Y (aL k)];exact(f.be (Φ a x))) b bS bq))<|bt Z Z<|bt Z Z<|aA Z (λ _=>bD k underlying25 bq Z Z ((h.be a).Y (aL k)) Z GE)<|dE Z (λ _ x=>aq Z (τ.aF.G ng (by rw[<- (h.be (Φ a x)).Y (aL k)];exact(h.be (Φ a x))) o bS bq))<|aA Z (λ _=>Cb avY avW (p:=s) (q:=v) Z Z)<|fn λ P K=>?_;have u:=Φ a K;refine a7<|?_;refine dB Z (λ g=>?_) (λ g=>?_)
   .refine ar<|bc Z<|dO<|bR<|k1<|dO<|bR<|b3 Z Z<|?_;rw[baA (λ e=>by rw[e,o]at b;injection b with b;exact absurd b.symm (by first|exact Rq g|exact g))];exact⟨Z,u⟩
   .refine dP<|bK<|cW Z Z Z<|?_;exact cM ⟨k+1,Z,Z,u,GE,pC r (by rw[b,o,(by first|exact PD g|exact g:s=v)])⟩
  .refine cI<|cH<|cU<|cG<|a7<|ar<|bc Z<|b3 Z Z<|?_;rw[baG (PC GE GE r)];exact⟨Z,a⟩
theorem aEg(A B:Option Addr)(c d F E:Nat)(l m:List bb)(w:World)(f:bb.ce.aF F w A c l)(h:bb.ce.aF E w B d m):
  Calls prog 76 #[.slice A l.length c,.slice B m.length d] w (λ e w'=>e=.returned (.bool (decide (l=m)))/\Ext w w'):=by
 have G:=f.M;refine bT (n:=26) func76 Z Z Z ?_;refine ar<|aG Z<|av<|aC Z<|κ (bY underlying26 Z)<|vm Z<|κ (bY underlying26 Z)<|cV Z Z<|ax<|?_;refine fr Z (λ t=>?_) (λ t=>?_)
 .refine ar<|bc Z<|bR<|b3 Z Z<|?_;rw[baA (λ e=>t (by rw[e]))];exact⟨Z,(Ext.U w)⟩
 .refine bf<|av<|aC Z<|κ (bY underlying26 Z)<|vm Z<|ax<|bp<|?_;refine di (λ D C z=>∃ k:Nat,C=[(0,.slice A l.length c),(1,.slice B m.length d),(12,J (l.length:Int)),(13,J (k:Int))]/\D=l.length-k/\Ext w z/\(k<=l.length)/\(∀ j,j<k->l[j]? =m[j]?)) _ _ ⟨0,Z,Z,(Ext.U w),GE,λ j y=>absurd y GE⟩ (c' Z Z Z) ?_;rintro M L O ⟨k,rfl,rfl,a,N,r⟩;have G:=f.M;refine ar<|cF Z Z<|ax<|av<|?_;refine c7 Z (λ H=>?_) (λ H=>?_)
  .obtain⟨s,b⟩:=iK (l:=l) (i:=k) GE;obtain⟨v,o⟩:=iK (l:=m) (i:=k) GE;refine bf<|av<|bp<|aC Z<|aG Z<|av<|?_;refine c_ [(3,0),(7,0)] [0,1,2,3,4,5,6,7,8] ?_;refine bt Z Z<|bt Z Z<|aA Z (λ _=>bD k underlying26 eg Z Z ((f.be a).Y (aL k)) Z GE)<|dE Z (λ _ x=>aq Z (τ.aF.G gm (by rw[<- (f.be (Φ a x)).Y (aL k)];exact(f.be (Φ a x))) b oI eg))<|bt Z Z<|bt Z Z<|aA Z (λ _=>bD k underlying26 eg Z Z ((h.be a).Y (aL k)) Z GE)<|dE Z (λ _ x=>aq Z (τ.aF.G gm (by rw[<- (h.be (Φ a x)).Y (aL k)];exact(h.be (Φ a x))) o oI eg))<|aA Z (λ _=>Cb avZ avX (p:=s) (q:=v) Z Z)<|fn λ P K=>?_;have u:=Φ a K;refine a7<|?_;refine dB Z (λ g=>?_) (λ g=>?_)
   .refine ar<|bc Z<|dO<|bR<|k1<|dO<|bR<|b3 Z Z<|?_;rw[baA (λ e=>by rw[e,o]at b;injection b with b;exact absurd b.symm (by first|exact Rq g|exact g))];exact⟨Z,u⟩
   .refine dP<|bK<|cW Z Z Z<|?_;exact cM ⟨k+1,Z,Z,u,GE,pC r (by rw[b,o,(by first|exact PD g|exact g:s=v)])⟩
  .refine cI<|cH<|cU<|cG<|a7<|ar<|bc Z<|b3 Z Z<|?_;rw[baG (PC GE GE r)];exact⟨Z,a⟩
theorem abF(A B:Option Addr)(c d C y:Nat)(l m:List Int)(w:World)(f:bN.aF C w A c l)(h:bN.aF y w B d m):
  Calls prog 75 #[.slice A l.length c,.slice B m.length d] w (λ e w'=>e=.returned (.bool (decide (l=m)))/\Ext w w'):=by
 have D:=f.M;refine bT (n:=26) func75 Z Z Z ?_;refine ar<|aG Z<|av<|aC Z<|κ (bY underlying22 Z)<|vm Z<|κ (bY underlying22 Z)<|cV Z Z<|ax<|?_;refine fr Z (λ q=>?_) (λ q=>?_)
 .refine ar<|bc Z<|bR<|b3 Z Z<|?_;rw[baA (λ e=>q (by rw[e]))];exact⟨Z,(Ext.U w)⟩
 .refine bf<|av<|aC Z<|κ (bY underlying22 Z)<|vm Z<|ax<|bp<|?_;refine di (λ v u t=>∃ k:Nat,u=[(0,.slice A l.length c),(1,.slice B m.length d),(12,J (l.length:Int)),(13,J (k:Int))]/\v=l.length-k/\Ext w t/\(k<=l.length)/\(∀ j,j<k->l[j]? =m[j]?)) _ _ ⟨0,Z,Z,(Ext.U w),GE,λ j s=>absurd s GE⟩ (c' Z Z Z) ?_;rintro K H M ⟨k,rfl,rfl,a,L,p⟩;have D:=f.M;refine ar<|cF Z Z<|ax<|av<|?_;refine c7 Z (λ E=>?_) (λ E=>?_)
  .obtain⟨z,b⟩:=iK (l:=l) (i:=k) GE;obtain⟨G,o⟩:=iK (l:=m) (i:=k) GE;refine bf<|av<|bp<|aC Z<|aG Z<|av<|?_;refine c_ [(3,0),(7,0)] [0,1,2,3,4,5,6,7,8] ?_;refine bt Z Z<|bt Z Z<|aA Z (λ _=>bD k underlying22 cO Z Z ((f.be a).Y (aL k)) Z GE)<|dE Z (λ _ x=>aq Z (τ.aF.H ew (by rw[<- (f.be (Φ a x)).Y (aL k)];exact(f.be (Φ a x))) b Z aH))<|bt Z Z<|bt Z Z<|aA Z (λ _=>bD k underlying22 cO Z Z ((h.be a).Y (aL k)) Z GE)<|dE Z (λ _ x=>aq Z (τ.aF.H ew (by rw[<- (h.be (Φ a x)).Y (aL k)];exact(h.be (Φ a x))) o Z aH))<|aA Z (λ _=>bne Z Z)<|fn λ N F=>?_;have r:=Φ a F;refine a7<|?_;refine fr Z (λ g=>?_) (λ g=>?_)
   .refine ar<|bc Z<|dO<|bR<|k1<|dO<|bR<|b3 Z Z<|?_;rw[baA (λ e=>by rw[e,o]at b;injection b with b;exact absurd b.symm (by first|exact Rq g|exact g))];exact⟨Z,r⟩
   .refine dP<|bK<|cW Z Z Z<|?_;exact cM ⟨k+1,Z,Z,r,GE,pC p (by rw[b,o,(by first|exact PD g|exact g:z=G)])⟩
  .refine cI<|cH<|cU<|cG<|a7<|ar<|bc Z<|b3 Z Z<|?_;rw[baG (PC GE GE p)];exact⟨Z,a⟩
end
def aOG{W V:ag}:((((((decide (W.am=V.am) && decide (W.aT=V.aT)) && decide (W.bl=V.bl)) && decide (W.bE=V.bE)) && decide (W.ah=V.ah)) && (W.next == V.next)) && (W.db == V.db))=decide (W=V):=by
 obtain⟨f,b,s,m,t,n,o⟩:=W;obtain⟨c,g,h,e,i,d,a⟩:=V;rw[bcz];simp[and_assoc]
def aOE{f g:aE}:(((f.O == g.O) && (f.high == g.high)) && decide (f.G=g.G))=decide (f=g):=by
 obtain⟨a,b,c⟩:=f;obtain⟨d,h,e⟩:=g;rw[bcz];simp[and_assoc]
def mO:ag:=⟨⟨3,1,[0,0,3]⟩,[⟨0,0⟩],[20],[0,0,9],[⟨1,0,1,⟨1,0⟩,10,0⟩],2,0⟩
def aPd:List dm:=[(⟨1,1,⟨2,0⟩,0⟩:dm),(⟨3,0,⟨0,0⟩,2⟩:dm)]
def a2h:ag:=mO.L aPd
theorem aOw(f g:aE)(A B:Option Addr)(c d:Nat)(w:World)(l:bN.aF 8 w A c f.G)(m:bN.aF 8 w B d g.G):
  Calls prog 73 #[.agg #[J f.O,J f.high,.slice A f.G.length c],.agg #[J g.O,J g.high,.slice B g.G.length d]] w (λ e w'=>e=.returned (.bool (decide (f=g)))/\Ext w w'):=by
 refine bT (n:=24) func73 Z Z Z ?_;refine cZ Z Z λ t q k s b=>?_;refine gz Z Z λ u r j v h=>?_;have i:=Φ k j;refine aG Z<|ar<|κ (aj s8 Z)<|?_;have b:=b.O j;refine a1 Z b aH Z<|κ (aj s8 Z)<|a1 Z h aH Z<|κ (beq Z Z)<|vm Z<|aR Z (λ a=>aj I5 Z)<|aR Z (λ a=>aq (gt a Z) (b.one aH Z))<|aR Z (λ a=>aj I5 Z)<|aR Z (λ a=>aq (gt a Z) (h.one aH Z))<|aR Z (λ a=>beq (gt a Z) (gt a Z))<|κ (cQ Z Z Z Z)<|vm Z<|aR Z (λ a=>aj qK Z)<|aR Z (λ a=>aq (gt a Z) (b.one et Z))<|aR Z (λ a=>aj qK Z)<|aR Z (λ a=>aq (gt a Z) (h.one et Z))<|iD Z aa7 (λ a=>b6 (gt a Z) (b6 (gt a Z) Z)) (λ a=>abF _ _ _ _ _ _ f.G g.G _ (l.be i) (m.be i)) λ x p=>?_;have o:=Φ i p;refine κ (cQ Z Z Z Z)<|bc Z<|b3 Z Z<|?_;exact⟨by rw[<-aOE];rfl,o⟩
theorem aOD(w:World)(a:ag.cS)(W:ag)(b:ag.cS)(V:ag)(g:ag.fd w a W)(h:ag.fd w b V):
  Calls prog 45 #[.agg ((ag.cells a W).toArray),.agg ((ag.cells b V).toArray)] w (λ e w'=>e=.returned (.bool (decide (W=V)))/\Ext w w'):=by
 refine bT (n:=52) func45 Z Z Z ?_;refine cZ Z Z λ B y u A d=>?_;refine gz Z Z λ C z t D f=>?_;have i:=Φ u t;refine aG Z<|ar<|κ (aj lA Z)<|?_;have d:=d.O t;refine κ (aq Z (d.Y [J W.am.O,J W.am.high,.slice a.P W.am.G.length a.p] gA gB Z))<|κ (aj lA Z)<|κ (aq Z (f.Y [J V.am.O,J V.am.high,.slice b.P V.am.G.length b.p] gA gB Z))<|cf aCg Z (aOw W.am V.am _ _ _ _ _ (g.P.be i) (h.P.be i)) λ E k=>?_;have j:=Φ i k;refine vm Z<|aR Z (λ c=>aj lY Z)<|?_;have d:=d.O k;refine aR Z (λ c=>aq (gt c Z) (d.one lZ Z))<|aR Z (λ c=>aj lY Z)<|?_;have f:=f.O k;refine aR Z (λ c=>aq (gt c Z) (f.one lZ Z))<|iD Z aCh (λ c=>b6 (gt c Z) (b6 (gt c Z) Z)) (λ c=>aEe _ _ _ _ _ _ W.aT V.aT _ (g.B.be j) (h.B.be j)) λ F o=>?_;have l:=Φ j o;refine κ (cQ Z Z Z Z)<|vm Z<|aR Z (λ c=>aj oJ Z)<|?_;have d:=d.O o;refine aR Z (λ c=>aq (gt c Z) (d.one et Z))<|aR Z (λ c=>aj oJ Z)<|?_;have f:=f.O o;refine aR Z (λ c=>aq (gt c Z) (f.one et Z))<|iD Z aa7 (λ c=>b6 (gt c Z) (b6 (gt c Z) Z)) (λ c=>abF _ _ _ _ _ _ W.bl V.bl _ (g.S.be l) (h.S.be l)) λ G q=>?_;have r:=Φ l q;refine κ (cQ Z Z Z Z)<|vm Z<|aR Z (λ c=>aj rZ Z)<|?_;have d:=d.O q;refine aR Z (λ c=>aq (gt c Z) (d.one et Z))<|aR Z (λ c=>aj rZ Z)<|?_;have f:=f.O q;refine aR Z (λ c=>aq (gt c Z) (f.one et Z))<|iD Z aa7 (λ c=>b6 (gt c Z) (b6 (gt c Z) Z)) (λ c=>abF _ _ _ _ _ _ W.bE V.bE _ (g.M.be r) (h.M.be r)) λ H p=>?_;have s:=Φ r p;refine κ (cQ Z Z Z Z)<|vm Z<|aR Z (λ c=>aj fC Z)<|?_;have d:=d.O p;refine aR Z (λ c=>aq (gt c Z) (d.one gR Z))<|aR Z (λ c=>aj fC Z)<|?_;have f:=f.O p;refine aR Z (λ c=>aq (gt c Z) (f.one gR Z))<|iD Z aCi (λ c=>b6 (gt c Z) (b6 (gt c Z) Z)) (λ c=>aEg _ _ _ _ _ _ W.ah V.ah _ (g.T.be s) (h.T.be s)) λ x m=>?_;have v:=Φ s m;refine κ (cQ Z Z Z Z)<|vm Z<|aR Z (λ c=>aj vQ Z)<|?_;have d:=d.O m;refine aR Z (λ c=>aq (gt c Z) (d.one aH Z))<|aR Z (λ c=>aj vQ Z)<|?_;have f:=f.O m;refine aR Z (λ c=>aq (gt c Z) (f.one aH Z))<|aR Z (λ c=>beq (gt c Z) (gt c Z))<|κ (cQ Z Z Z Z)<|vm Z<|aR Z (λ c=>aj yJ Z)<|aR Z (λ c=>aq (gt c Z) (d.one aH Z))<|aR Z (λ c=>aj yJ Z)<|aR Z (λ c=>aq (gt c Z) (f.one aH Z))<|aR Z (λ c=>beq (gt c Z) (gt c Z))<|κ (cQ Z Z Z Z)<|bc Z<|b3 Z Z<|?_;exact⟨by rw[<-aOG];rfl,v⟩
theorem asQ(w:World):
  Calls prog 15 #[] w (λ e w'=>∃ a,e=.returned (.agg (ag.cells a mO).toArray)/\bF w' w.heap.size a mO/\Ext w w'):=by
 refine bT (n:=11) func15 Z Z Z ?_;refine ar<|cy nO Z λ P H x O d=>?_;have U:=d.lt;refine ax<|ar<|cT (e:=3) (cs:=[J 0,J 0,J 3]) Z (λ _=>GT) Z λ Q o t S h=>?_;have y:=Φ x t;have V:=h.lt;refine κ (v:=.agg #[J 3,J 1,.slice (bd o) 3 3]) (ee Z)<|κ (v:=.agg #[J 0,J 0]) (ee Z)<|cT (e:=41) (cs:=[J 0,J 0]) Z (λ _=>GT) Z λ T u p X g=>?_;have z:=Φ y p;have wF:=g.lt;refine cT (e:=3) (cs:=[J 20]) Z (λ _=>GT) Z λ W q i L l=>?_;have A:=Φ z i;have G:=l.lt;refine cT (e:=3) (cs:=[J 0,J 0,J 9]) Z (λ _=>GT) Z λ Y r f M j=>?_;have D:=Φ A f;have K:=j.lt;refine κ (v:=.agg #[J 1,J 0]) (ee Z)<|κ (v:=.agg #[J 1,J 0,J 1,J 1,J 0,J 10,J 0]) (ee Z)<|cT (e:=68) (cs:=[J 1,J 0,J 1,J 1,J 0,J 10,J 0]) Z (λ _=>GT) Z λ F s b N m=>?_;have E:=Φ D b;refine κ (v:=.agg #[J 3,J 1,.slice (bd o) 3 3,.slice (bd u) 1 1,.slice (bd q) 1 1,.slice (bd r) 3 3,.slice (bd s) 1 1,J 2,J 0]) (ee Z)<|?_;have d:=d.O (Φ t (Φ p (Φ i (Φ f b))));refine ck Z Z d Z bP Z Z λ rJ c d=>?_;have C:=Ext.H E c bn;refine tC<|cJ (.cell Z (d.all cD bP) .nil)<|?_;have h:=(h.O (Φ p (Φ i (Φ f b)))).H c aJ;have g:=(g.O (Φ i (Φ f b))).H c aJ;have l:=(l.O (Φ f b)).H c aJ;have j:=(j.O b).H c aJ;have m:=m.H c aJ;exact⟨⟨some ⟨o,0,none⟩,some ⟨u,0,none⟩,some ⟨q,0,none⟩,some ⟨r,0,none⟩,some ⟨s,0,none⟩,3,1,1,3,1⟩,Z,⟨aO.K (R:=bN) (by_:=8) (B:=w.heap.size) (k:=[0,0,3]) h [[J 0],[J 0],[J 3]] Z ⟨⟨Z,b7.2 GP⟩,⟨Z,b7.2 GP⟩,⟨Z,b7.2 GP⟩,trivial⟩ Kx Kx GP GE,aO.K (R:=aw.ce) (by_:=16) (B:=w.heap.size) (k:=[⟨0,0⟩]) g [[J 0,J 0]] Z ⟨⟨Z,b7.2 GP,b7.2 GP⟩,trivial⟩ Kx Kx GP GE,aO.K (R:=bN) (by_:=8) (B:=w.heap.size) (k:=[20]) l [[J 20]] Z ⟨⟨Z,b7.2 GP⟩,trivial⟩ Kx Kx GP GE,aO.K (R:=bN) (by_:=8) (B:=w.heap.size) (k:=[0,0,9]) j [[J 0],[J 0],[J 9]] Z ⟨⟨Z,b7.2 GP⟩,⟨Z,b7.2 GP⟩,⟨Z,b7.2 GP⟩,trivial⟩ Kx Kx GP GE,aO.K (R:=bb.ce) (by_:=56) (B:=w.heap.size) (k:=[⟨1,0,1,⟨1,0⟩,10,0⟩]) m [[J 1,J 0,J 1,J 1,J 0,J 10,J 0]] Z ⟨⟨Z,b7.2 GP,b7.2 GP,b7.2 GP,b7.2 GP,b7.2 GP,b7.2 GP,b7.2 GP⟩,trivial⟩ Kx Kx GP GE,by simp[τ.ai];omega,b7.2 GP,b7.2 GP,b7.2 GP,b7.2 GP⟩,C⟩
section
theorem aLB:∀(n:Nat) (l:List Nat),l.Nodup->(∀ x∈l,x<n)->l.length<=n:=by
 intro n;induction n with
 | zero =>
  intro l _ h;cases l with
  | nil=>exact bao _
  | cons x r=>exact absurd (h x baZ) GE
 | succ n c =>
  intro l b h;by_cases d:n∈l
  .have f:=c (l.erase n) (b.erase _) (λ x a=>by
    have:=h x (List.mem_of_mem_erase a);have g:x≠n:=λ e=>by subst e;exact(List.Nodup.not_mem_erase b) a
    omega)
   rw[List.length_erase_of_mem d]at f;omega
  .have:=c l b (λ x a=>by
    have:=h x a;have g:x≠n:=λ e=>d (by rw[<-e];exact a)
    omega)
   omega
section
variable{f:aE}{a b c x y:aw}{d D:Int}{far:List Int}{aD:aw->Int}
theorem aAq(g:f.br=0){l:List aw}(c:l.Nodup)(b:∀ x∈l,f.dF x=true):l.length<=f.G.length:=by
 have h:(l.map f.d9).Nodup:=by
  have:∀ l:List aw,l.Nodup->(∀ x∈l,f.dF x=true)->(l.map f.d9).Nodup:=by
   intro l;induction l with
   | nil=>intro _ _;exact beU
   | cons x r j =>
    intro c b;rw[bdW]at c;rw[ba5,bdW];refine⟨λ d=>?_,j c.2 λ y a=>b y (bav _ a)⟩;obtain⟨y,a,e⟩:=baV.1 d;have:=aE.Z6 g (b y (bav _ a)) (b x baZ) e;subst this;exact c.1 a
  exact this l c b
 have:=aLB f.G.length _ h (λ i d=>by
  obtain⟨y,a,rfl⟩:=baV.1 d;exact(aE.rV g (b y a)).1)
 rwa [bbd]at this
abbrev pe(f:aE)(a:aw):aw->Int->Prop:=sW.pd f.dM f.iz (λ s=>s=a)
abbrev vz(f:aE)(a:aw):aw->Int->Prop:=sW.xe f.dM f.iz (λ s=>s=a)
def pe.uW(r:pe f a x d):0<=d:=sW.pd.uW (aE.aeW f) r
def pe.ground(c:f.ground a=true)(r:pe f a x d):f.ground x=true:=by
 induction r with
 | start e=>rw[e];exact c
 | step _ b _=>exact(aE.Ro.1 b).2
def pe.O(r:pe f a x d){e:Int}(q:pe f x y e):pe f a y (d+e):=by
 induction q with
 | start g=>rw[g,Int.add_zero];exact r
 | step _ b c=>rw[<-Int.add_assoc];exact .step c b
def vz.pred(h:vz f a x d):(x=a/\d=0)\/∃ p e,vz f a p e/\x∈f.dM p/\d=e+f.iz x:=by
 obtain⟨r,i⟩:=h;cases r with
 | start j=>exact .inl ⟨j,rfl⟩
 | @step p _ e hp c =>
  obtain⟨g,b⟩:=sW.pd.aom (aE.aeW f) hp;have k:=b.2 _ hp;have l:=i _ (.step b.1 c);have:e=g:=GE
  subst this;exact .inr ⟨p,e,b,c,Z⟩
theorem vz.chain(C:f.br=0)(t:f.ground a=true):∀(n:Nat) (x:aw) (d:Int),vz f a x d->d.toNat=n->∃ l:List aw,l.Nodup/\(∀ y∈l,f.dF y=true/\∃ e,vz f a y e/\e<=d)/\d+3<=3*(l.length:Int):=by
 intro n;induction n using Nat.strongRecOn with
 | ind n r =>
  intro x d h D;have o:=aE.K (pe.ground t h.1);rcases h.pred with⟨g,j⟩|⟨p,e,g,j,z⟩
  .refine⟨[x],Kx,λ y b=>?_,by rw[j];simp⟩;rw[bah.1 b];exact⟨o,d,h,bbI _⟩
  .have w:=f.Y (c:=x);have B:=pe.uW g.1;obtain⟨l,s,q,v⟩:=r e.toNat GE p e g rfl;refine⟨x::l,bdW.2 ⟨λ u=>?_,s⟩,λ y b=>?_,by rw[baj];omega⟩
   .obtain⟨_,m,i,k⟩:=q x u;have:=i.uniq h;omega
   .rcases baB.1 b with rfl|b
    .exact⟨o,d,h,bbI _⟩
    .obtain⟨i,m,k,A⟩:=q y b;exact⟨i,m,k,GE⟩
def vz.kg(b:f.br=0)(g:f.ground a=true)(h:vz f a x d):d+3<=3*(f.G.length:Int):=by
 obtain⟨l,e,i,j⟩:=h.chain b g _ x d rfl;have:=aAq b e λ y c=>(i y c).1;omega
def cellAt(f:aE)(i:Nat):aw:=⟨(i:Int) % f.O,(i:Int) / f.O⟩
def aAj(e:f.br=0)(d:f.dF c=true):cellAt f (f.d9 c)=c:=by
 obtain⟨_,_,a,b,j,k⟩:=aE.idx e d;have h:=(aE.rV e d).2;unfold cellAt;rw[h];have g:(c.y*f.O+c.x) % f.O=c.x:=by rw[bex,bdu,bew a b]
 have i:(c.y*f.O+c.x) / f.O=c.y:=by rw[bex,Int.add_mul_ediv_right _ _ GE,Int.ediv_eq_zero_of_lt a b,Int.zero_add]
 rw[g,i]
def aEL(b:f.br=0){g:aw->Int}(d:∀ c,f.dF c=false->g c= -1):f.aD ((List.range f.G.length).map λ i=>g (cellAt f i)) c=g c:=by
 cases a:f.dF c with
 | false=>rw[aE.PH a,d c a]
 | true =>
  rw[aE.yR a,baa,bau,bed (aE.rV b a).1];show g (cellAt f (f.d9 c))=g c;rw[aAj b a]
theorem arn(t:f.br=0)(r:f.ground a=true)(b:aw):∃ far,rT f a b far:=by
 let Q:aw->Int->Prop:=λ c d=>vz f a c d/\∀ D,vz f a b D->d+aE.mE b c<=D
 let g:aw->Int:=λ c=>@dite _ (∃ d,Q c d) (Classical.propDecidable _) (λ h=>h.choose) λ _=> -1
 have n:∀ c d,Q c d->g c=d:=λ c d h=>by
  have k:∃ d,Q c d:=⟨d,h⟩;show @dite _ (∃ d,Q c d) (Classical.propDecidable _) (λ h=>h.choose) (λ _=> -1)=d;rw[dif_pos k];exact k.choose_spec.1.uniq h.1
 have q:∀ c,(¬ ∃ d,Q c d)->g c= -1:=λ c h=>by
  show @dite _ (∃ d,Q c d) (Classical.propDecidable _) (λ h=>h.choose) (λ _=> -1)= -1;rw[dif_neg h]
 have m:∀ c,0<=g c->Q c (g c):=λ c h=>by
  by_cases k:∃ d,Q c d
  .obtain⟨d,j⟩:=k;rw[n c d j];exact j
  .rw[q c k]at h;omega
 have w:∀ c,f.dF c=false->g c= -1:=λ c x=>q c λ⟨d,j⟩=>by
  have:=aE.K (pe.ground r j.1.1);rw[x]at this;cases this
 have l:∀ c,f.aD ((List.range f.G.length).map λ i=>g (cellAt f i)) c=g c:=λ c=>aEL t w;refine⟨(List.range f.G.length).map λ i=>g (cellAt f i),by rw[bbd,bfM],⟨λ c h=>?_,λ c h=>?_,λ c d j y=>?_,λ c h=>?_⟩,λ c=>?_,λ c h=>?_⟩
 .rw[l c]at h ⊢;by_cases k:∃ d,Q c d
  .obtain⟨d,j⟩:=k;rw[n c d j]at h;have:=pe.uW j.1.1;omega
  .exact q c k
 .rw[l c]at h ⊢;exact m c h
 .rw[l c];exact n c d ⟨j,y⟩
 .rw[l c]at h ⊢;have I:=m c h;rcases I.1.pred with o|⟨p,e,o,s,v⟩
  .exact .inl o
  .right;have B:=aE.abJ b (aE.Ro.1 s).1;have A:=f.Y (c:=c);have u:g p=e:=n p e ⟨o,λ D z=>by have:=I.2 D z;omega⟩;exact⟨p,by rw[l p,u];exact pe.uW o.1,s,by rw[l p,u];exact v⟩
 .rw[l c];by_cases h:0<=g c
  .have:=(m c h).1.kg t r;omega
  .omega
 .rw[l c]at h;exact pe.ground r (m c h).1.1
def abS(d:f.br=0)(c:f.ground a=true):sW.Spec f.dM f.iz (aE.mE b) (λ s=>s=a) b (dJ f a b):=by
 obtain⟨far,h⟩:=arn d c b;rw[<-h.UT];exact h.spec
def PG(e:f.br=0)(d:f.ground a=true)(h:0<=dJ f a b c):vz f a c (dJ f a b c):=((abS e d).O c h).1
def alD(e:f.br=0)(c:f.ground a=true)(h:vz f a b d):dJ f a b b=d:=(abS e c).end_ (aE.abI b) h
def aEK(i:f.br=0)(g:f.ground a=true)(h:pe f a b d):0<=dJ f a b b/\dJ f a b b<=d:=by
 obtain⟨e,c⟩:=sW.pd.aom (aE.aeW f) h;rw[alD i g c];exact⟨pe.uW c.1,c.2 _ h⟩
def UU(d:f.br=0)(c:f.ground a=true)(h:0<=dJ f a b b):q6 f a (dJ f a b):=by
 obtain⟨far,e⟩:=arn d c b;exact q6.Kb e h
theorem aRr(h:q6 f a aD):∀(n:Nat) (c:aw),0<=aD c->(aD c).toNat=n->∀ x∈hq f aD a c,0<=aD x/\aD x<=aD c/\f.ground x=true:=by
 intro n;induction n using Nat.strongRecOn with
 | ind n i =>
  intro c b m x d;by_cases e:c=a
  .subst e;rw[Fs h]at d;rw[bah.1 d];exact⟨b,bbI _,h.Y _ b⟩
  .obtain⟨p,q,k,r⟩:=h.O b e;have l:=f.Y (c:=c);rw[Ft h b e]at d;rcases baB.1 d with rfl|d
   .exact⟨b,bbI _,h.Y _ b⟩
   .obtain⟨j,o,g⟩:=i _ GE _ k rfl x d;exact⟨j,GE,g⟩
def abN(c:jd f a b=0):f.br=0/\f.ground a=true/\f.ground b=true/\0<=dJ f a b b/\rp f a b=dJ f a b b/\hW f a b=(hq f (dJ f a b) a b).reverse:=by
 rcases abM f a b with⟨e,d⟩|⟨e,d,h⟩|⟨e,d,h,g⟩|⟨e,d,h,g|g⟩
 .rw[d]at c;exact absurd c e
 .rw[h]at c;exact absurd c d
 .rw[g]at c;cases c
 .rw[g.2]at c;cases c
 .refine⟨e,d,h,g.1,?_,?_⟩
  .unfold rp;rw[bap c]
  .unfold hW;rw[bap c]
end
end
def aZ1:List bb:=[⟨1,0,1,⟨2,0⟩,10,0⟩]
def aZ0:List ed:=[⟨1,⟨2,0⟩⟩]
section
variable{i:Nat}{t:bb}
def BJ(s t:bb):Prop:=s.id<t.id/\s.an≠t.an
def acf{a:Type}[Inhabited a]{l:List a}{t:a}(h:l[i]? =some t):l.getD i default=t:=by rw[baa,h];rfl
theorem Good.aIK{W:ag}(c:Good W){j:Nat}{s:bb}(f:i<j)(e:W.ah[i]? =some s)(b:W.ah[j]? =some t):s.id<t.id:=by
 induction j generalizing t with
 | zero=>omega
 | succ j d =>
  have g:=(bab.1 b).1;obtain⟨u,a⟩:=iK (l:=W.ah) (i:=j) GE;have k:=(c.ids (j+1) t b).1;have m:W.G (j+1)=u.id:=by
   unfold ag.G;rw[ban GE,bek,acf a]
  rcases bcS.1 f with h|rfl
  .have:=d h a;omega
  .rw[e]at a;injection a with a;subst a;omega
def Good.H{W:ag}(c:Good W):W.ah.Pairwise BJ:=by
 rw[baS];intro i j h g f;have d:=bac h;have b:=bac g;refine⟨c.aIK f d b,λ e=>?_⟩;have a:=c.kJ j _ b;rw[<-e]at a;have:(W.kJ j).contains (W.ah[i]).an=true:=by
  rw[bdd];unfold ag.kJ;exact baV.2 ⟨_,bcd.2 ⟨i,by rw[baR,bap f,d]⟩,Z⟩
 rw[this]at a;exact nomatch a
def Good.each{W:ag}(a:Good W)(c:t∈W.ah):0<t.id/\t.id<W.next/\xj W.am W.aT.length t:=by
 obtain⟨i,b⟩:=bcd.1 c;have d:=a.ids i t b;exact⟨GE,d.2.1,a.ah i t b⟩
theorem Good.W0{W V:ag}(b:Good W)(e:V.am=W.am)(g:V.aT=W.aT)(v:V.bl=W.bl)(r:V.bE=W.bE)(y:V.next=W.next)(x:0<=V.db/\V.db<=1000000)(w:V.ah.length<=100)(q:V.ah.Pairwise BJ)
  (n:∀ t∈V.ah,0<t.id/\t.id<V.next/\xj V.am V.aT.length t):Good V where
 am:=by rw[e];exact b.am
 l5:=by rw[g];exact b.l5
 dj:=w
 sl:=by rw[v,g];exact b.sl
 aT:=by rw[g,e];exact b.aT
 bl:=by rw[v];exact b.bl
 zc:=by rw[r,e];exact b.zc
 bE:=by rw[r,e];exact b.bE
 ah:=λ i t a=>(n t (baQ a)).2.2
 ids:=λ i t a=>by
  have f:=n t (baQ a);unfold ag.G;split
  .exact⟨f.1,f.2.1,bbI _⟩
  .rename_i C
   have h:=(bab.1 a).1;obtain⟨u,p⟩:=iK (l:=V.ah) (i:=i-1) GE;rw[acf p];have D:=n u (baQ p);have c:=(baS.1 q) (i-1) i GE h GE;have k:V.ah[i-1]'(by omega)=u:=(bab.1 p).2;have m:V.ah[i]=t:=(bab.1 a).2;rw[k,m]at c;exact⟨c.1,f.2.1,GE⟩
 kJ:=λ i t a=>by
  rw[bdF];intro o;rw[bdd]at o;unfold ag.kJ at o;obtain⟨s,z,B⟩:=baV.1 o;obtain⟨j,d⟩:=bcd.1 z;rw[baR]at d;split at d
  .rename_i A
   have h:=(bab.1 a).1;have c:=(baS.1 q) j i GE h A;have k:V.ah[j]'(by omega)=s:=(bab.1 d).2;have m:V.ah[i]=t:=(bab.1 a).2;rw[k,m]at c;exact c.2 B
  .exact nomatch d
 next:=by rw[y];exact b.next
 db:=x
end
section
variable{α:Type}{k:Nat}{l:List bb}{x:Int}
def aEs[Inhabited α]{p:α->Bool}{l:List α}(h:∀ i,i<l.length->p (l.getD i default)=false):l.find? p=none :=
 bbu.2 λ x b=>by
  obtain⟨i,a,rfl⟩:=bec b;have:=h i a;rw[baa,bac a]at this;simpa using this
def aEu[Inhabited α]{p:α->Bool}{l:List α}(b:k<l.length)(a:p (l.getD k default)=true)(h:∀ i,i<k->p (l.getD i default)=false):l.find? p=some (l.getD k default):=by
 have e:l.getD k default=l[k]:=by rw[baa,bac b];rfl
 rw[e]at a ⊢;refine bcp.2 ⟨a,k,b,Z,λ j c=>?_⟩;have:=h j c;rw[baa,bac (by omega:j<l.length)]at this;simpa using this
def k2(l:List bb)(x:Int):Option bb:=l.find? λ t=>t.id == x
def RT(l:List bb)(x:Int):Value:=.tuple #[.agg ((k2 l x).getD default).cells.toArray,.bool (k2 l x).isSome]
def aPO(b:k<l.length)(a:((λ t=>t.id == x):bb->Bool) (l.getD k default)=true)(h:∀ i,i<k->((λ t=>t.id == x):bb->Bool) (l.getD i default)=false):RT l x=.tuple #[.agg (l.getD k default).cells.toArray,.bool true]:=by
 have e:k2 l x=some (l.getD k default):=aEu b a h;unfold RT;rw[e];rfl
def aPP(h:∀ i,i<l.length->((λ t=>t.id == x):bb->Bool) (l.getD i default)=false):RT l x=.tuple #[.agg (default:bb).cells.toArray,.bool false]:=by
 have e:k2 l x=none:=aEs h;unfold RT;rw[e];rfl
def HO(l:List Int):Bool:=(List.range (l.length-1)).all λ i=> !decide (l.getD (i+1) 0<l.getD i 0)
def aPf{l:List Int}(h:∀ i,i+1<l.length->¬l.getD (i+1) 0<l.getD i 0):HO l=true:=by
 unfold HO;rw[ba8];intro i a;have:=h i (by have:=baW.1 a;omega);simpa using this
def a19{a:Type}(l:List a)(k:Nat):List a:=l.mapIdx λ i x=>if i<k\/l.length-k<=i then(l[l.length-1-i]?).getD x else x
theorem afT(x:Int)(a:ag.cS)(W:ag)(w:World)(h:ag.fd w a W):
  Calls prog 171 #[.agg ((ag.cells a W).toArray),J x] w (λ e w'=>e=.returned (RT W.ah x)/\Ext w w'):=by
 have nS:=h.T.M;refine bT (n:=22) func171 Z Z Z ?_;refine cZ Z Z λ U N z T f=>?_;have gp:=f.lt;refine cy s_ Z λ V q r X b=>?_;have D:=Φ z r;refine aG Z<|av<|ar<|κ (aj fC Z)<|?_;have f:=f.O r;refine a1 Z f gR Z<|κ (bY underlying26 Z)<|vm Z<|ax<|bp<|?_;refine di (λ C B p=>∃ k:Nat,B=[(1,J x),(4,.pointer (bd q)),(9,.slice a.T W.ah.length a.t),(10,J (W.ah.length:Int)),(11,J (k:Int))]/\C=W.ah.length-k/\Ext w p/\aO p q [J 0,J 0,J 0,J 0,J 0,J 0,J 0] 68 (0,0)/\(k<=W.ah.length)/\(∀ i,i<k->((λ t=>t.id == x):bb->Bool) (W.ah.getD i default)=false)) _ _ ⟨0,Z,Z,D,b,GE,λ i A=>GE⟩ (c' Z Z Z) ?_;rintro L P Y ⟨k,rfl,rfl,d,b,S,g⟩;have O:=b.lt;refine ar<|cF Z Z<|ax<|av<|?_;refine c7 Z (λ G=>?_) (λ G=>?_)
 .refine bf<|av<|bp<|ar<|κ (bD k underlying26 eg Z Z ((h.T.be d).Y (aL k)) Z GE)<|κ (aq Z (τ.aF.G gm ((h.T.be d).O (aL k)) (cg (l:=W.ah) (u:=default) GE) oI eg))<|cy s_ Z λ vh Q j R c=>?_;have F:=Φ d j;refine ck Z Z c Z eg Z Z λ vk o c=>?_;have s:=Ext.H F o bn;refine ax<|ar<|κ (aj r6 Z)<|a1 Z c aH Z<|vm Z<|κ (beq Z Z)<|ax<|?_;refine j1 Z (λ m=>?_) (λ m=>?_)
  .refine ar<|κ (aq Z (c.all oI eg))<|?_;have b:=(b.O j).H o aJ;refine ck Z Z b Z eg Z Z λ M y b=>?_;have H:=Ext.H s y bn;refine bc Z<|dO<|bR<|k1<|dO<|bR<|cJ (.cell Z (b.all oI eg) (.tmp Z .nil))<|?_;exact⟨by rw[aPO (k:=k) GE (by simpa using m) g];rfl,H⟩
  .refine dP<|bK<|cW Z Z Z<|?_;have b:=(b.O j).H o aJ;exact cM ⟨k+1,Z,Z,s,b,GE,pC g (by simpa using m)⟩
 .refine cI<|cH<|cU<|cG<|a7<|ar<|κ (v:=.agg #[J 0,J 0,J 0,J 0,J 0,J 0,J 0]) (ee Z)<|ck Z Z b Z eg Z Z λ wN K b=>?_;have E:=Ext.H d K bn;refine bc Z<|cJ (.cell Z (b.all oI eg) (.tmp Z .nil))<|?_;exact⟨by rw[aPP (λ i A=>g i GE)];rfl,E⟩
end
section
variable{l:List dw}
def EJ(W:ag)(l:List dw):List bb:=(List.range W.ah.length).map (AM W.ah (hL W l))
structure IK(W:ag)(l:List dw):Prop where
 hB:Good W
 bk:rE W l={W with ah:=(EJ W l).filter λ t=>decide (0<t.K)}
 aZ:Bf W l=((EJ W l).filter λ t=> !decide (0<t.K)).map bb.id
 aGc:∀ k,0<=(hL W l).getD k 0
 az:(hL W l).length=W.ah.length
def XH{W:ag}(h:oG W l=0):IK W l :=
 ⟨Good.G (T6 h).1,(afQ h rfl).1,(afQ h rfl).2,λ k=>((acZ h).2 k).1,(acZ h).1⟩
def V1(W:ag)(l:List dw):(EJ W l).length=W.ah.length:=by simp[EJ]
def V0{W:ag}{k:Nat}{t:bb}(h:W.ah[k]? =some t):(EJ W l)[k]? =some {t with K:=t.K-(hL W l).getD k 0}:=by
 have a:=(bab.1 h).1;unfold EJ;rw[bau,bed a,bbR];unfold AM;rw[acf h]
def aIm{W:ag}{x:bb}(h:x∈EJ W l):∃(k:Nat) (t:bb),W.ah[k]? =some t/\x={t with K:=t.K-(hL W l).getD k 0}:=by
 obtain⟨k,a⟩:=bcd.1 h;have c:=(bab.1 a).1;rw[V1]at c;obtain⟨t,b⟩:=iK c;rw[V0 b]at a;injection a with a
 exact⟨k,t,b,a.symm⟩
def IK.H{W:ag}(h:IK W l):(EJ W l).Pairwise BJ:=by
 rw[baS];intro i j b a g;rw[V1]at b a;obtain⟨s,d⟩:=iK b;obtain⟨t,c⟩:=iK a;have e:=(bab.1 (V0 (l:=l) d)).2;have f:=(bab.1 (V0 (l:=l) c)).2;rw[e,f];have:=(baS.1 h.hB.H) i j b a g;rw[(bab.1 d).2,(bab.1 c).2]at this;exact this
theorem IK.right{W:ag}(h:IK W l):Good (rE W l):=by
 rw[h.bk];refine Good.W0 h.hB Z Z Z Z Z h.hB.db ?_ (h.H.filter _) λ t b=>?_
 .exact bay (bcf _ _) (by rw[V1];exact h.hB.dj)
 .obtain⟨b,d⟩:=bbT.1 b;obtain⟨k,s,e,rfl⟩:=aIm b;have a:=h.hB.each (baQ e);have f:=h.aGc k;have c:=bbx d;refine⟨a.1,a.2.1,⟨a.2.2.O,a.2.2.H,a.2.2.ground,?_,a.2.2.load⟩⟩;have i:=a.2.2.K;show 1<=s.K-_/\s.K-_<=ag.gT s.O;have g:0<s.K-(hL W l).getD k 0:=c;omega
def asT{l:List Int}(h:l.Pairwise (· < ·)):HO l=true:=by
 refine aPf λ i a=>?_;have:=(baS.1 h) i (i+1) GE a GE;rw[baa,baa,bac a,bac (by omega:i<l.length)];show ¬l[i+1]<l[i];omega
def IK.sorted{W:ag}(h:IK W l):HO (Bf W l)=true:=by
 rw[h.aZ];refine asT ?_;rw[bfL];exact(h.H.filter _).imp λ h=>h.1
end
section
section
variable{f:aE}{a b c x y:aw}{d D:Int}
theorem aMI(j:f.br=0)(d:f.ground a=true)(s:0<=dJ f a b c)(q:0<=dJ f a x c):nX f (dJ f a b) c=nX f (dJ f a x) c:=by
 have key:∀ t n,n∈dG c->0<=dJ f a t c->((f.ground n && decide (0<=dJ f a t n) && decide (dJ f a t n+f.iz c=dJ f a t c))=true↔∃ e,vz f a n e/\vz f a c (e+f.iz c)):=by
  intro t n g k;have m:=abS (b:=t) j d;have l:=PG j d k;constructor
  .intro h;simp only[bai,baF]at h;exact⟨_,PG j d h.1.2,by rw[h.2];exact l⟩
  .rintro⟨e,i,p⟩;have r:=l.uniq p;have o:dJ f a t n=e:=m.known n e i λ D u=>by
    have:=(m.O c k).2 D u;have w:=aE.abJ t (aE.afG g);have v:=f.Y (c:=c);omega
   rw[o,pe.ground d i.1,baG (pe.uW i.1),baG r.symm];rfl
 unfold nX;congr 1;apply find_congr;intro n g;rw[bcz,key b n g s,key x n g q]
where
 find_congr {p q:aw->Bool}:∀ {l:List aw},(∀ n∈l,p n=q n)->l.find? p=l.find? q
  | [],_=>rfl
  | n::l,h=>by
   rw[List.find?_cons,List.find?_cons,h n baZ,find_congr λ m hm=>h m (bav _ hm)]
theorem aRs(i:f.br=0)(h:f.ground a=true)(o:0<=dJ f a b b)(q:0<=dJ f a x x):∀(n:Nat) (c:aw),0<=dJ f a b c->0<=dJ f a x c->(dJ f a b c).toNat=n->hq f (dJ f a b) a c=hq f (dJ f a x) a c:=by
 have j:=UU i h o;have k:=UU i h q;intro n;induction n using Nat.strongRecOn with
 | ind n p =>
  intro c d g u;by_cases e:c=a
  .subst e;rw[Fs j,Fs k]
  .have l:=aMI (b:=b) (x:=x) i h d g;obtain⟨y,z,r,A⟩:=j.O d e;obtain⟨v,w,m,s⟩:=k.O g e;have t:=f.Y (c:=c);rw[Ft j d e,Ft k g e,<-l];congr 1;exact p _ GE _ r (by rw[l];exact m) Z
theorem aRt{b:aw->Int}(h:q6 f a b):∀(n:Nat) (c:aw),0<=b c->(b c).toNat=n->∀ i,(ao:i<(hq f b a c).length)->(hq f b a c).drop i=hq f b a ((hq f b a c)[i])/\pe f ((hq f b a c)[i]) c (b c-b ((hq f b a c)[i])):=by
 intro n;induction n using Nat.strongRecOn with
 | ind n k =>
  intro c g t i ao;by_cases e:c=a
  .subst e;rw[Fs h]at ao;have:i=0:=by simpa using ao
   subst this;simp only[Fs h,bc8,bdT];exact⟨by first|trivial|rfl,by rw[bev];exact .start rfl⟩
  .have d:=Ft h g e;obtain⟨p,u,q,v⟩:=h.O g e;have s:=f.Y (c:=c);cases i with
   | zero =>
    have e0:(hq f b a c)[0]=c:=by simp only[d,bdT]
    rw[e0,bc8,bev];exact⟨Z,.start Z⟩
   | succ i =>
    have j:i<(hq f b a (nX f b c)).length:=by rw[d]at ao;simpa using ao
    obtain⟨o,m⟩:=k _ GE _ q rfl i j;have l:(hq f b a c)[i+1]=(hq f b a (nX f b c))[i]:=by simp only[d,bdU]
    rw[l];refine⟨by rw[<-o,d,bfx],?_⟩;have r:pe f _ c (b (nX f b c)-b ((hq f b a (nX f b c))[i])+f.iz c):=.step m (aE.Ro.2 ⟨aE.afG p,h.Y c g⟩);rw[show b c-b ((hq f b a (nX f b c))[i])=b (nX f b c)-b ((hq f b a (nX f b c))[i])+f.iz c by omega];exact r
theorem aRw(D:jd f a b=0){n:Nat}(E:n<(hW f a b).length){x:aw}(s:(hW f a b).getD n default=x):jd f a x=0/\jd f x b=0/\hW f a x=(hW f a b).take (n+1)/\rp f a x+rp f x b=rp f a b:=by
 obtain⟨c,d,z,e,A,j⟩:=abN D;have F:=UU c d e;have p:(hW f a b).length=(hq f (dJ f a b) a b).length:=by rw[j,bco]
 have m:(hq f (dJ f a b) a b).length-1-n<(hq f (dJ f a b) a b).length:=GE
 obtain⟨u,v⟩:=aRt F _ b e rfl _ m;have r:(hq f (dJ f a b) a b)[(hq f (dJ f a b) a b).length-1-n]=x:=by
  rw[p6 E]at s;rw[<-s];simp only[j,bfq]
 rw[r]at u v;have w:x∈hq f (dJ f a b) a b:=by rw[<-r];exact bbl m
 obtain⟨i,H,g⟩:=aRr F _ b e rfl x w;have l:=PG c d i;have q:=alD c d l;have k:0<=dJ f a x x:=by rw[q];exact i
 have h:=abO c d g k;have t:=aEK c g v;have o:=abO c g z t.1;refine⟨h,o,?_,?_⟩
 .have y:hW f a x=(hq f (dJ f a x) a x).reverse:=by unfold hW;rw[bap h]
  rw[y,<-aRs c d e k _ x i k rfl,<-u,j,List.reverse_drop,p.symm.trans p];congr 1;have:(hq f (dJ f a b) a b).reverse.length=(hq f (dJ f a b) a b).length:=bco;omega
 .have C:rp f a x=dJ f a x x:=by unfold rp;rw[bap h]
  have B:rp f x b=dJ f x b b:=by unfold rp;rw[bap o]
  rw[C,B,A,q];have G:=(PG c d e).2 _ (pe.O l.1 (PG c g t.1).1);omega
end
end
end Go.Proofs.YtooonebcoaleiaaGreat
