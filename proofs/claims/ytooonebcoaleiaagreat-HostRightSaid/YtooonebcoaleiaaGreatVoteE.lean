import Derived.Test.YtooonebcoaleiaaGreatStt
set_option linter.all false
set_option maxRecDepth 100000
set_option maxHeartbeats 4000000
open Go.RowKit
namespace Go.Proofs.YtooonebcoaleiaaGreat
open Tryz
abbrev bcv:=@Nat.testBit_lt_two_pow
abbrev bc7:=@Nat.testBit_eq_decide_div_mod_eq
abbrev bdJ:=@Go.Value.slice.injEq
abbrev bdS:=@Nat.div_div_eq_div_mul
abbrev bet:=@List.set_set
abbrev bfn:=@and_true
abbrev bfr:=@BitVec.getLsbD_ofNat
abbrev bfC:=@List.map_replicate
section
open fg
def aE5(L:List (List aS)){i:Nat}(h:i<L.length):(L.map lq).getD i ByteArray.empty=lq (L.getD i []):=by
 rw[baa,baa,bau,bac h];rfl
def aib.size{W:ag}{L:List (List aS)}{n e:Int}{s:ByteArray}{t:List (BitVec 64)}(h:aib W L n e s t):s.size<=140737488351232:=by
 rcases h with⟨_,_,b,c,a,_⟩|⟨_,_,a,_⟩
 .rw[a,aE5 L GE];exact auf _
 .rw[a];decide
def a2i:List (List aS):=[qp,[]]
end
section
open fg
theorem aMa{w:World}{A:Option Addr}{n c:Nat}(h:(.slice (.slice aS.sh 48) 24:hg).jF w [.slice A n c]):∃ T L,n=(T:List gV).length/\nw.aF 24 w A c T/\lU w T L:=by
 obtain⟨y,z,L,e,s⟩:=τ.M (R:=aS.ce.slice 43 48) (by_:=24) (λ w cs h=>by
  obtain⟨A,c,l,e,d⟩:=τ.M (R:=aS.ce) (by_:=48) aS.opens rfl GP h;exact⟨l,A,c,e,d⟩) Z GP h
 simp only[bci,bdJ,bfn]at e;obtain⟨rfl,rfl,rfl⟩:=e;obtain⟨u,x,m,p,ess,o,k⟩:=s;have key:∀(ess:List (List Value)) (L:List (List aS)),dX (λ es a=>(aS.ce.slice 43 48).bv w es a) ess L->∃ T:List gV,T.length=L.length/\dX (λ es a=>nw.bv w es a) ess T/\∀(i:Nat) (v:gV),T[i]? =some v->∃ l:List aS,L[i]? =some l/\v.n=l.length/\aS.ce.aF 48 w v.a v.c l:=by
  intro ess;induction ess with
  | nil =>
   intro L h;cases L with
   | nil=>exact⟨[],rfl,trivial,λ i v h=>by simp at h⟩
   | cons=>exact h.elim
  | cons es ess r =>
   intro L h;cases L with
   | nil=>exact h.elim
   | cons l L =>
    obtain⟨⟨A,c,t,d⟩,q⟩:=h;obtain⟨T,b,f,g⟩:=r L q;refine⟨⟨A,l.length,c⟩::T,by simp[b],⟨⟨t,trivial⟩,f⟩,λ i v j=>?_⟩;cases i with
    | zero =>
     obtain rfl:=bae (show some (⟨A,l.length,c⟩:gV)=some v from j);exact⟨l,Z,Z,d⟩
    | succ i=>exact g i v j
 obtain⟨T,b,f,g⟩:=key ess L o;exact⟨T,L,b.symm,⟨by rw[b];exact u,x,by rw[b];exact m,p,ess,f,by rw[b];exact k⟩,b,g⟩
end
theorem Pj(A:Option Addr)(c:Nat)(l:List aS)(w:World)(h:aS.ce.aF 48 w A c l):
  Calls prog 28 #[.slice A l.length c] w λ e w'=>∃ b' cn,e=.returned (.slice b' l.length cn)/\aS.ce.aM 43 48 w' w.heap.size (τ.ai b') b' cn l/\(b'=none↔A=none)/\Below w.heap.size w w':=by
 obtain⟨i0,ao,sv,tx,tz⟩:=bc6 aS.G;have Xk:∀(w:World) (a:Option Addr) (n c ln cn:Nat),(binOp .eql 76 (.slice a n c) (.slice none ln cn)).run prog w=.ok (.bool a.isNone) w:=λ w a n c ln cn=>bcG w _ _ a n c ln cn underlying76;cases A with
 | none =>
  obtain rfl:c=0:=h.2.2.2.1 rfl;obtain rfl:l=[]:=baM (by have:=h.1;omega);go_enter func28,ntmps28;go_wp2_with fail
  go_ret;exact⟨none,0,Z,τ.aM.nil _,Kx,baL _ _⟩
 | some a =>
  have du:Below w.heap.size w (w.alloc (.cells #[] 43)):=(baL _ w).alloc (bao _) _;obtain⟨n,gx⟩:∃ n,Hid (l.length=n):=⟨_,bag rfl⟩;obtain⟨aa,ab,ay,ba,ess,b2,cL⟩:=h.be du;have BU:=bag b2;have ry:∀ u∈ess.flatten,u.oneCell'=true:=by
   intro u hu;obtain⟨y,aP,hu⟩:=bbv.1 hu;obtain⟨a,ha⟩:=b2.left y aP;exact aS.ce.one ha u hu
  have tv:∀(j:Nat) u,ess.flatten[j]? =some u->aS.ce.raw (j % aS.ce.size) u:=λ j u hu=>Mb b2 GP hu;rw[gx.out]at aa ay cL;have eX:=bag cL;have k7:=bag (Own.empty (e:=43) (size:=aS.ce.size) (G:=aS.ce.raw) w (bao w.heap.size));clear h ba b2 cL;rw[gx.out];go_enter func28,ntmps28;go_wp2_with (at_builtin;refine N4 _ rfl _ _ 76 rfl w.heap.size 43 i0 aS.zero aS.ce.size 48 underlying76 ao sv tx tz rfl GP aS.ce.raw aS.M _ _ _ rfl k7.out (some a) n c ess.flatten rfl eX.out ry tv ?qc4 ?qc5 ?qc6 ?_)
  case qc4=>unfold maxLen;omega
  case qc5=>omega
  case qc6=>simp
  intro v' a8 gF lj pz hl;have dx:=du.grown lj Kx (by intro k au;simp[Value.ownBlock]at au;omega);obtain⟨cX,c1,rfl,hle,_,_,_,nj⟩:=gF.shape;have mF:cX≠none:=by
   intro h;subst h;exact pz (nj Z)
  have bI:Hid (aS.ce.aM 43 48 a8 w.heap.size (τ.ai cX) cX c1 l):=bag (τ.aM.E5 aS.plain BU.out (by rw[gx.out];exact ay) (by rw[gx.out];simpa using gF));have xa:=bag mF;clear lj pz hl gF mF nj ry tv;go_wp2_with fail
  go_ret;exact⟨cX,c1,Z,bI.out,⟨λ h=>absurd h xa.out,λ h=>by cases h⟩,dx⟩
section
variable{q:Nat}{v:gV}
def aic:dU prog nw 29 76 24:=dU.O (z:=.slice none 0 0) (k:=1) underlying29 ad2 rfl rfl GP (λ j u h=>afl j u h)
open fg
def lK(T:List gV):List Nat:=T.flatMap λ v:gV=>τ.ai v.a
def kd(w:World)(aQ:Nat)(T:List gV)(L:List (List aS)):Prop:=T.length=L.length/\∀(i:Nat) (v:gV),T[i]? =some v->∃ l:List aS,L[i]? =some l/\v.n=l.length/\aS.ce.aM 43 48 w aQ (τ.ai v.a) v.a v.c l
def kd.nil(w:World)(aQ:Nat):kd w aQ [] []:=⟨rfl,λ i v h=>by simp at h⟩
def ati{T:List gV}(h:q∈lK T):∃(i:Nat) (v:gV),T[i]? =some v/\q∈τ.ai v.a:=by
 obtain⟨v,b,I⟩:=beE.1 h;obtain⟨i,a,rfl⟩:=bbf.1 b;exact⟨i,_,bac a,I⟩
def atj{T:List gV}{i:Nat}(h:T[i]? =some v)(I:q∈τ.ai v.a):q∈lK T:=beE.2 ⟨v,baQ h,I⟩
def RS{T:List gV}(h:q∈lK (T++ [v])):q∈lK T\/q∈τ.ai v.a:=by
 unfold lK at h ⊢;rw[bbH,bas]at h;exact h.imp id λ h=>by simpa using h
section
variable{w w':World}{aQ:Nat}{T:List gV}{L:List (List aS)}
def kd.O(h:kd w aQ T L)(x:Ext w w'):kd w' aQ T L:=⟨h.1,λ i v c=>by
 obtain⟨l,a,b,d⟩:=h.2 i v c;exact⟨l,a,b,d.O x⟩⟩
def kd.H{S:List Nat}(h:kd w aQ T L)(m:Mod S w w')(e:∀ q∈lK T,q∉S):kd w' aQ T L:=⟨h.1,λ i v a=>by
 obtain⟨l,b,c,d⟩:=h.2 i v a;exact⟨l,b,c,d.H m λ q I=>e q (atj a I)⟩⟩
def kd.dq{a:Nat}(h:kd w aQ T L)(f:a<=aQ):kd w a T L:=⟨h.1,λ i v d=>by
 obtain⟨l,b,c,e⟩:=h.2 i v d;exact⟨l,b,c,e.dq f⟩⟩
def kd.lt(h:kd w aQ T L):∀ q∈lK T,aQ<=q/\q<w.heap.size:=λ q I=>by
 obtain⟨i,v,a,I⟩:=ati I;obtain⟨l,c,d,b⟩:=h.2 i v a;exact b.lt q I
theorem kd.snoc{A:Option Addr}{c:Nat}{l:List aS}(h:kd w aQ T L)(o:aS.ce.aM 43 48 w aQ (τ.ai A) A c l):kd w aQ (T++ [⟨A,l.length,c⟩]) (L++ [l]):=⟨by simp[h.1],λ i v a=>by
 rcases ba2 i T.length with d|e
 .rw[baz d]at a;obtain⟨k,f,g,j⟩:=h.2 i v a;exact⟨k,by rw[baz (by rw[<-h.1];exact d)];exact f,g,j⟩
 .rw[baD e]at a;have b:i-T.length=0:=by
   rcases bdw (i-T.length)with b|b
   .exact b
   .rw[baX (by simp;omega)]at a;cases a
  rw[b]at a;obtain rfl:=bae (show some (⟨A,l.length,c⟩:gV)=some v from a);refine⟨l,by rw[baD (by rw[<-h.1];exact e),<-h.1,b];rfl,rfl,o⟩⟩
def kd.atg(h:kd w aQ T L):lU w T L:=⟨h.1,λ i v c=>by
 obtain⟨l,a,b,d⟩:=h.2 i v c;exact⟨l,a,b,d.bv⟩⟩
end
def awP(W:ag)(L:List (List aS))(l:List aS)(e:Int)(V:ag)(a:List (List aS)):Prop :=
 (e=0/\qF W L/\L.length<200/\ji (qj W L) l=0/\V=W/\a=L++ [l])\/(e≠0/\¬(qF W L/\L.length<200/\ji (qj W L) l=0)/\V=ag.zero/\a=[])
theorem aeO(a:ag.cS)(W:ag)(A:Option Addr)(c:Nat)(T:List gV)(L:List (List aS))(tV:Option Addr)(D6:Nat)(l:List aS)(w:World)(bk:ag.fd w a W)(cc:nw.aF 24 w A c T)(fG:lU w T L)(az:aS.ce.aF 48 w tV D6 l):
  Calls prog 37 #[.agg #[J W.am.O,J W.am.high,.slice a.P W.am.G.length a.p,.slice a.B W.aT.length a.b,.slice a.S W.bl.length a.s,.slice a.M W.bE.length a.m,.slice a.T W.ah.length a.t,J W.next,J W.db,.slice A T.length c],.slice tV l.length D6] w (λ e w'=>∃(e':Int) (u:ag.cS) (V:ag) (b':Option Addr) (cn:Nat) (lT:List gV) (zP:List (List aS)),e=.returned (.tuple #[.agg #[J V.am.O,J V.am.high,.slice u.P V.am.G.length u.p,.slice u.B V.aT.length u.b,.slice u.S V.bl.length u.s,.slice u.M V.bE.length u.m,.slice u.T V.ah.length u.t,J V.next,J V.db,.slice b' lT.length cn],J e'])/\awP W L l e' V zP/\bF w' w.heap.size u V/\nw.aM 76 24 w' w.heap.size (τ.ai b') b' cn lT/\kd w' w.heap.size lT zP/\(∀ q∈bF.G u,q∉τ.ai b'/\q∉lK lT)/\(∀ q∈τ.ai b',q∉lK lT)/\Ext w w'):=by
 have Hc:=cc.M;refine bT (n:=79) func37 Z Z Z ?_;refine cZ Z Z λ ch a6 aV cY r=>?_;have:=aV.size;have gp:=r.lt;refine cy abf Z λ dr b_ bh fl d=>?_;have:=bh.size;have bo:=Φ aV bh;have j8:=d.lt;refine aG Z<|ar<|κ (aj Ee Z)<|?_;have r:=r.O bh;refine κ (aq Z (r.Y [J W.am.O,J W.am.high,.slice a.P W.am.G.length a.p,.slice a.B W.aT.length a.b,.slice a.S W.bl.length a.s,.slice a.M W.bE.length a.m,.slice a.T W.ah.length a.t,J W.next,J W.db] cD bP Z))<|κ (aj uo Z)<|a1 Z r yM Z<|ca Px Z Z ((RH a W _ _ T L _ (bk.be bo) (cc.be bo) (fG.be bo)).mono ?_);rintro e wL ⟨Dt,hy,eY,Yz,dl,cb,rfl,Hm,vD,Zp,ah,f_⟩;refine cR ?_;have:=f_.size;have jW:=Φ bo f_;have pK:=b4 vD.lt;have mg:=dZ vD.lt;have Bg:=b4 Zp.lt;have M4:=dZ Zp.lt;have cC:∀ q∈τ.ai Yz,q∈bF.G hy->False:=ah;have cK:∀ q∈bF.G hy,q∈τ.ai Yz->False:=λ q i s=>ah q s i;refine vm Z<|bL Z Z<|bL Z Z<|bL Z Z<|cy nO Z λ zp TT h' b8 Lf=>?_;have:=h'.size;have ka:=Φ jW h';have bE:=Lf.lt;refine st Z Z Lf Z bP Z Z Z λ zq za Lf=>?_;have:=za.size;have mr:=Ext.H ka za bn;refine va Z<|aG Z<|av<|aC Z<|cV Z Z<|ax<|?_;refine fr Z (λ p7=>?_) (λ p7=>?_)
 .refine ar<|κ (v:=.agg #[J 0,J 0,.slice none 0 0,.slice none 0 0,.slice none 0 0,.slice none 0 0,.slice none 0 0,J 0,J 0,.slice none 0 0]) (ee Z)<|vm Z<|?_;have d:=(d.O (Φ f_ h')).H za aJ;refine ck Z Z d Z rj Z Z λ H3 Nf d=>?_;have:=Nf.size;have mS:=Ext.H mr Nf bn;refine bc Z<|bR<|cJ (.cell Z (d.all Aq rj) (.tmp Z .nil))<|?_;exact⟨Dt,⟨none,none,none,none,none,0,0,0,0,0⟩,ag.zero,none,0,[],[],Z,.inr ⟨(by simpa using p7),λ bu=>(show ¬Dt=0 by simpa using p7) (Hm.XC.2 bu.1),Z,Z⟩,bF.zero _ _,τ.aM.nil _,kd.nil _ _,λ q I=>⟨λ h=>by simp[τ.ai]at h,λ h=>by simp[lK]at h⟩,λ q I=>by simp[τ.ai]at I,mS⟩
 .obtain⟨kn,jh,jx,jQ,ko⟩:=Hm.ok (by simpa using p7);have b7:=fG.1;refine bf<|av<|ar<|κ (aj uo Z)<|?_;have r:=(r.O (Φ f_ h')).H za aJ;refine a1 Z r yM Z<|κ (bY underlying29 Z)<|κ (beq Z Z)<|ax<|?_;refine j1 Z (λ yU=>?_) (λ yU=>?_)
  .refine ar<|κ (v:=.agg #[J 0,J 0,.slice none 0 0,.slice none 0 0,.slice none 0 0,.slice none 0 0,.slice none 0 0,J 0,J 0,.slice none 0 0]) (ee Z)<|?_;have d:=(d.O (Φ f_ h')).H za aJ;refine ck Z Z d Z rj Z Z λ Bp qd d=>?_;have:=qd.size;have n7:=Ext.H mr qd bn;refine bc Z<|bR<|cJ (.cell Z (d.all Aq rj) (.tmp Z .nil))<|?_;exact⟨6,⟨none,none,none,none,none,0,0,0,0,0⟩,ag.zero,none,0,[],[],Z,.inr ⟨GP,λ bu=>by have:=bu.2.1;have ba:=yU;omega,rfl,rfl⟩,bF.zero _ _,τ.aM.nil _,kd.nil _ _,λ q I=>⟨λ h=>by simp[τ.ai]at h,λ h=>by simp[lK]at h⟩,λ q I=>by simp[τ.ai]at I,n7⟩
  .have bW:L.length<200:=by have ba:=yU;omega
   refine bf<|av<|ar<|κ (aq Z (Lf.all cD bP))<|vm Z<|?_;have vD:=(vD.O h').H za (bV pK);refine ca abe Z Z ((RU hy eY _ _ l _ vD.bv (az.be mr)).mono ?_);rintro e NO ⟨aa,Oa,bv,Ob,bw,Oc,bz,rfl,al,E,F,G,ad,jL⟩;refine cR ?_;have:=jL.size;have yh:=Φ mr jL;have bZ:=b4 al.lt;have c4:=dZ al.lt;have wJ:=b4 E.lt;have c5:=dZ E.lt;have HX:=b4 F.lt;have c6:=dZ F.lt;have NK:=b4 G.lt;have c8:=dZ G.lt;have aQ:∀ q∈τ.ai Oa,q∈bF.G aa->False:=λ q I=>ad q (.inl I);have cL:∀ q∈bF.G aa,q∈τ.ai Oa->False:=λ q i s=>aQ q s i;have aR:∀ q∈τ.ai Ob,q∈bF.G aa->False:=λ q I=>ad q (.inr (.inl I));have cN:∀ q∈bF.G aa,q∈τ.ai Ob->False:=λ q i s=>aR q s i;have aT:∀ q∈τ.ai Oc,q∈bF.G aa->False:=λ q I=>ad q (.inr (.inr I));have cO:∀ q∈bF.G aa,q∈τ.ai Oc->False:=λ q i s=>aT q s i;refine vm Z<|bL Z Z<|bL Z Z<|bL Z Z<|cy nO Z λ X7 dk ez b9 FP=>?_;have:=ez.size;have FF:=Φ yh ez;have ce:=FP.lt;refine cy GM Z λ C9 Ca U We ie=>?_;have:=U.size;have mU:=Φ FF U;have Xj:=ie.lt;have FP:=FP.O U;refine st Z Z FP Z bP Z Z Z λ Fo P FP=>?_;have:=P.size;have o4:=Ext.H mU P bn;have ie:=ie.H P aJ;refine ck Z Z ie Z yL Z Z λ Fp mJ ie=>?_;have:=mJ.size;have pS:=Ext.H o4 mJ bn;refine aG Z<|aC Z<|cV Z Z<|ax<|?_;refine fr Z (λ Vo=>?_) (λ Vo=>?_)
   .refine ar<|κ (v:=.agg #[J 0,J 0,.slice none 0 0,.slice none 0 0,.slice none 0 0,.slice none 0 0,.slice none 0 0,J 0,J 0,.slice none 0 0]) (ee Z)<|vm Z<|?_;have d:=((((d.O (Φ f_ h')).H za aJ).O (Φ jL (Φ ez U))).H P aJ).H mJ aJ;refine ck Z Z d Z rj Z Z λ dd CU d=>?_;have:=CU.size;have ym:=Ext.H pS CU bn;refine bc Z<|bR<|cJ (.cell Z (d.all Aq rj) (.tmp Z .nil))<|?_;exact⟨ji eY l,⟨none,none,none,none,none,0,0,0,0,0⟩,ag.zero,none,0,[],[],Z,.inr ⟨(by simpa using Vo),λ bu=>absurd bu.2.2 (by rw[<-jQ];simpa using Vo),Z,Z⟩,bF.zero _ _,τ.aM.nil _,kd.nil _ _,λ q I=>⟨λ h=>by simp[τ.ai]at h,λ h=>by simp[lK]at h⟩,λ q I=>by simp[τ.ai]at I,ym⟩
   .have y4:ji (qj W L) l=0:=by rw[<-jQ];simpa using Vo
    refine bf<|ar<|κ (aj Ee Z)<|?_;have r:=((r.O (Φ jL (Φ ez U))).H P aJ).H mJ aJ;refine κ (aq Z (r.Y [J W.am.O,J W.am.high,.slice a.P W.am.G.length a.p,.slice a.B W.aT.length a.b,.slice a.S W.bl.length a.s,.slice a.M W.bE.length a.m,.slice a.T W.ah.length a.t,J W.next,J W.db] cD bP Z))<|ca Px Z Z ((RH a W _ _ ([]:List gV) ([]) _ (bk.be pS) (τ.aF.nil _) lU.nil).mono ?_);rintro e Sb ⟨ct,f,g,ak,cw,c2,rfl,aW,t,am,aB,wS⟩;refine cR ?_;have:=wS.size;have BD:=Φ pS wS;have HZ:=b4 t.lt;have aX:=dZ t.lt;have b0:=b4 am.lt;have c9:=dZ am.lt;have cE:∀ q∈τ.ai ak,q∈bF.G f->False:=aB;have cP:∀ q∈bF.G f,q∈τ.ai ak->False:=λ q i s=>aB q s i;refine vm Z<|bL Z Z<|bL Z Z<|bL Z Z<|cy nO Z λ X' cx ja c3 SR=>?_;have:=ja.size;have FJ:=Φ BD ja;have bC:=SR.lt;refine st Z Z SR Z bP Z Z Z λ de A2 SR=>?_;have:=A2.size;have K8:=Ext.H FJ A2 bn;refine va Z<|aG Z<|ar<|κ (aq Z (SR.all cD bP))<|κ (v:=.agg #[J g.am.O,J g.am.high,.slice f.P g.am.G.length f.p,.slice f.B g.aT.length f.b,.slice f.S g.bl.length f.s,.slice f.M g.bE.length f.m,.slice f.T g.ah.length f.t,J g.next,J g.db,.slice none 0 0]) (ee Z)<|cy abf Z λ cf TQ H8 c0 SJ=>?_;have:=H8.size;have bb:=Φ K8 H8;have bG:=SJ.lt;refine ck Z Z SJ Z rj Z Z λ Fk og SJ=>?_;have:=og.size;have Df:=Ext.H bb og bn;refine ax<|av<|ar<|κ (aj uo Z)<|?_;have r:=(((r.O (Φ wS ja)).H A2 aJ).O H8).H og aJ;refine a1 Z r yM Z<|κ (bY underlying29 Z)<|vm Z<|ax<|bp<|?_;have t:=(((t.O ja).H A2 (bV HZ)).O H8).H og (bV HZ);have d:=((((((((d.O (Φ f_ h')).H za aJ).O (Φ jL (Φ ez U))).H P aJ).H mJ aJ).O (Φ wS ja)).H A2 aJ).O H8).H og aJ;have E:=((((((E.O (Φ ez U)).H P (bV wJ)).H mJ (bV wJ)).O (Φ wS ja)).H A2 (bV wJ)).O H8).H og (bV wJ);have F:=((((((F.O (Φ ez U)).H P (bV HX)).H mJ (bV HX)).O (Φ wS ja)).H A2 (bV HX)).O H8).H og (bV HX);have G:=((((((G.O (Φ ez U)).H P (bV NK)).H mJ (bV NK)).O (Φ wS ja)).H A2 (bV NK)).O H8).H og (bV NK);refine di (λ bJ bH H=>∃ k:Nat,∃ S:List gV,∃ o:Option Addr,∃ jH:Nat,bH=[(1,.slice tV l.length D6),(4,.pointer (bd b_)),(5,J 0),(15,.pointer (bd TQ)),(57,.slice A T.length c),(58,J (T.length:Int)),(59,J (k:Int))]/\bJ=T.length-k/\Ext w H/\aO H b_ [J 0,J 0,.slice none 0 0,.slice none 0 0,.slice none 0 0,.slice none 0 0,.slice none 0 0,J 0,J 0,.slice none 0 0] 31 (0,0)/\bN.aM 3 8 H zq.heap.size (τ.ai Oa) Oa bv (Fb eY l)/\bN.aM 3 8 H zq.heap.size (τ.ai Ob) Ob bw (Fc eY l)/\xO.aM 4 1 H zq.heap.size (τ.ai Oc) Oc bz (HR eY l)/\bF H Fp.heap.size f g/\aO H TQ [J g.am.O,J g.am.high,.slice f.P g.am.G.length f.p,.slice f.B g.aT.length f.b,.slice f.S g.bl.length f.s,.slice f.M g.bE.length f.m,.slice f.T g.ah.length f.t,J g.next,J g.db,.slice o S.length jH] 31 (0,0)/\nw.aM 76 24 H Fk.heap.size (τ.ai o) o jH S/\kd H Fk.heap.size S (L.take k)/\(k<=T.length)/\(S.length=k)/\(Fk.heap.size<=H.heap.size)/\(∀ q∈lK S,q∈τ.ai o->False)/\(∀ q∈τ.ai o,q=b_->False)/\(∀ q∈τ.ai o,q=TQ->False)/\(∀ q∈τ.ai o,q∈bF.G f->False)/\(∀ q∈τ.ai o,q∈τ.ai Oa->False)/\(∀ q∈τ.ai o,q∈τ.ai Ob->False)/\(∀ q∈τ.ai o,q∈τ.ai Oc->False)) _ _ ⟨0,[],none,0,Z,Z,Df,d,E,F,G,t,SJ,(τ.aM.nil _),(kd.nil _ _),GE,rfl,bao _,λ q i s=>by simp[lK]at i,(λ q I b=>by (simp[τ.ai]at I)),(λ q I b=>by (simp[τ.ai]at I)),(λ q I b=>by (simp[τ.ai]at I)),(λ q I b=>by (simp[τ.ai]at I)),(λ q I b=>by (simp[τ.ai]at I)),(λ q I b=>by (simp[τ.ai]at I))⟩ (c' Z Z Z) ?_;rintro da cu X3 ⟨k,S,o,jH,rfl,rfl,wU,d,E,F,G,t,j,K,X,au,P4,df,Ag,IY,GF,IZ,ay,GG,LV⟩;have:=wU.size;have dg:=d.lt;have C3:=b4 E.lt;have Fh:=b4 F.lt;have HU:=b4 G.lt;have xT:=b4 t.lt;have bI:=j.lt;have XO:=b4 K.lt;have UY:∀ q∈τ.ai o,Fk.heap.size<=q:=λ q I=>(K.lt q I).1;have cB:∀ q∈τ.ai o,w.heap.size<=q:=λ q I=>by have:=UY q I;omega
    have cv:∀ q∈τ.ai o,q=TQ->False:=λ q I b=>by have:=UY q I;omega
    have qZ:∀ q∈lK S,q<X3.heap.size:=λ q I=>(X.lt q I).2;have AS:∀ q∈lK S,Fk.heap.size<=q:=λ q I=>(X.lt q I).1;refine ar<|cF Z Z<|ax<|av<|?_;refine c7 Z (λ aU=>?_) (λ aU=>?_)
    .obtain⟨fQ,dC,jK,gD,vZ,hx⟩:=fG.d9 (k:=k) GE;refine bf<|av<|bp<|ar<|κ (bD k underlying29 Ao Z Z ((cc.be wU).Y (aL k)) Z GE)<|κ (v:=.slice fQ jK.length dC) (aq Z (τ.aF.H Mx ((cc.be wU).O (aL k)) gD Z nb))<|aG Z<|?_;refine c_ [(1,0),(3,2),(4,2),(5,3),(7,3)] [0,1,2,3,4,5,6,7] ?_;refine aA Z (λ _=>aj uo Z)<|cr Z Z j yM Z<|bt Z Z<|fO Z Z Z λ dh x Q m=>ca Py Z Z ((Pj _ _ jK _ (hx.be (Φ wU x))).mono ?_);rintro e bS ⟨Yy,ab,rfl,OH,cQ,D⟩;refine⟨_,Z,m _ _ ⟨Φ x D,?_⟩⟩;have:=x.size;have Sw:=Φ wU x;have:=D.size;have a4:=Φ Sw D;have aY:=b4 OH.lt;have ae:=dZ OH.lt;refine fO Z Z Z λ ci y Q m=>cT (e:=76) (cs:=[.slice Yy ((jK).length) ab]) Z (λ _=>GT) Z λ db cz z c1 an=>m _ _ ⟨Φ y z,?_⟩;have:=y.size;have Yr:=Φ a4 y;have:=z.size;have K2:=Φ Yr z;have cd:=an.lt;have K:=K.O (Φ x (Φ D (Φ y z)));refine en Z Z Z λ dj p Q m=>ap aic τ.O (K.O p) ((aO.G (R:=nw) (by_:=24) (q:=(⟨Yy,(jK).length,ab⟩:gV)) an ⟨Z,trivial⟩ GP).be p) Z Z (by simp only[baj,baq];omega) (by simp only[baj,baq];omega) (by have:=p.size;omega) Z λ dc bm br B Tq M bA=>m _ _ ?_;have:=p.size;have Sz:=Φ K2 p;have:=B.size;have K3:=Ext.H Sz B (λ q I=>bay GE ((K.O p).lt q I).1);have bX:=b4 Tq.lt;have:=B.size;refine aA Z (λ _=>aj uo Z)<|?_;have j:=(j.O (Φ x (Φ D (Φ y (Φ z p))))).H B (λ I=>GF _ I rfl);refine en Z Z Z λ cj zy Q m=>ep Z Z (j.O zy) Z abg Z Z λ bU af j=>m _ _ ?_;have:=zy.size;have be:=Φ K3 zy;have:=af.size;have a5:=Ext.H be af bn;refine fn λ cl Yk=>?_;have:=Yk.size;have bg:=Φ a5 Yk;refine bK<|cW Z Z Z<|?_;have eF:=sK (oN zy af) Yk;have d:=((d.O (Φ x (Φ D (Φ y (Φ z p))))).H B (λ I=>IY _ I rfl)).H eF aJ;have E:=((E.O (Φ x (Φ D (Φ y (Φ z p))))).H B (fa ay)).H eF (bM λ q I b=>by have:=C3 q I;have:=wJ q I;omega);have F:=((F.O (Φ x (Φ D (Φ y (Φ z p))))).H B (fa GG)).H eF (bM λ q I b=>by have:=Fh q I;have:=HX q I;omega);have G:=((G.O (Φ x (Φ D (Φ y (Φ z p))))).H B (fa LV)).H eF (bM λ q I b=>by have:=HU q I;have:=NK q I;omega);have t:=((t.O (Φ x (Φ D (Φ y (Φ z p))))).H B (fa IZ)).H eF (bM λ q I b=>by have:=xT q I;have:=HZ q I;omega);have j:=j.O Yk;have Tq:=Tq.H eF (bM λ q I b=>baC (M q I) (λ Q3=>by (exact GF q Q3 b)) (λ Q3=>GE));have X:=((X.O (Φ x (Φ D (Φ y (Φ z p))))).H B Ag).H eF (λ q I h=>by have b:=bah.1 h;exfalso;have:=AS q I;omega);have OH:=((OH.O (Φ y (Φ z p))).H B (λ q I h=>by exfalso;(have:=ae q I;(have:=XO q h;omega)))).H eF (bx ae);exact cM ⟨k+1,S++ [(⟨Yy,(jK).length,ab⟩:gV)],bm,br,Z,Z,bg,d,E,F,G,t,j,Tq,(by rw[C2 vZ];exact X.snoc (OH.dq GE)),GE,by rw[bam,P4];rfl,GE,λ q i s=>(RS i).elim (λ i=>by exfalso;(exact baC (M q s) (λ aD=>by (exact Ag q i aD)) (λ aD=>by (have:=qZ q i;omega)))) (λ i=>by exfalso;(exact baC (M q s) (λ aE=>by (have:=ae q i;(have:=XO q aE;omega))) (λ aE=>by (have:=aY q i;omega)))),(eh M IY),(eh M GF),(λ q I b=>by (exact baC (M q I) (λ aF=>by (exact IZ q aF b)) (λ aF=>by (have:=xT q b;have:=HZ q b;omega)))),(λ q I b=>by (exact baC (M q I) (λ aH=>by (exact ay q aH b)) (λ aH=>by (have:=C3 q b;have:=wJ q b;omega)))),(λ q I b=>by (exact baC (M q I) (λ aI=>by (exact GG q aI b)) (λ aI=>by (have:=Fh q b;have:=HX q b;omega)))),(λ q I b=>by (exact baC (M q I) (λ aK=>by (exact LV q aK b)) (λ aK=>by (have:=HU q b;have:=NK q b;omega))))⟩
    .have nP:k=L.length:=by rw[<-fG.1];omega
     refine cI<|cH<|cU<|cG<|a7<|av<|?_;refine c_ [(1,0),(3,2),(4,2),(5,3),(7,3)] [0,1,2,3,4,5,6,7] ?_;refine aA Z (λ _=>aj uo Z)<|cr Z Z j yM Z<|bt Z Z<|fO Z Z Z λ bQ O Q m=>ca Py Z Z ((Pj _ _ l _ (az.be (Φ wU O))).mono ?_);rintro e b1 ⟨ai,aw,rfl,OI,cS,Ia⟩;refine⟨_,Z,m _ _ ⟨Φ O Ia,?_⟩⟩;have:=O.size;have a8:=Φ wU O;have:=Ia.size;have a9:=Φ a8 Ia;have xU:=b4 OI.lt;have Rb:=dZ OI.lt;refine fO Z Z Z λ cm Y Q m=>cT (e:=76) (cs:=[.slice ai ((l).length) aw]) Z (λ _=>GT) Z λ co cA N cX ao=>m _ _ ⟨Φ Y N,?_⟩;have:=Y.size;have bi:=Φ a9 Y;have:=N.size;have Yu:=Φ bi N;have bO:=ao.lt;have K:=K.O (Φ O (Φ Ia (Φ Y N)));refine en Z Z Z λ cp C Q m=>ap aic τ.O (K.O C) ((aO.G (R:=nw) (by_:=24) (q:=(⟨ai,(l).length,aw⟩:gV)) ao ⟨Z,trivial⟩ GP).be C) Z Z (by simp only[baj,baq];omega) (by simp only[baj,baq];omega) (by have:=C.size;omega) Z λ b2 bq bs Hz Tt PM bB=>m _ _ ?_;have:=C.size;have bj:=Φ Yu C;have:=Hz.size;have aZ:=Ext.H bj Hz (λ q I=>bay GE ((K.O C).lt q I).1);have cg:=b4 Tt.lt;have:=Hz.size;refine aA Z (λ _=>aj uo Z)<|?_;have j:=(j.O (Φ O (Φ Ia (Φ Y (Φ N C))))).H Hz (λ I=>GF _ I rfl);refine en Z Z Z λ b3 oW Q m=>ep Z Z (j.O oW) Z abg Z Z λ cq J8 j=>m _ _ ?_;have:=oW.size;have a0:=Φ aZ oW;have:=J8.size;have bl:=Ext.H a0 J8 bn;refine fn λ b5 Ib=>?_;have:=Ib.size;have a2:=Φ bl Ib;refine a7<|ar<|?_;have j:=j.O Ib;refine κ (aq Z (j.all Aq rj))<|?_;have d:=((((d.O (Φ O (Φ Ia (Φ Y (Φ N C))))).H Hz (λ I=>IY _ I rfl)).O oW).H J8 aJ).O Ib;refine ck Z Z d Z rj Z Z λ b6 Nb d=>?_;have:=Nb.size;have a3:=Ext.H a2 Nb bn;refine bc Z<|cJ (.cell Z (d.all Aq rj) (.tmp Z .nil))<|?_;have Tt:=(((Tt.O oW).H J8 (bM λ q I b=>baC (PM q I) (λ aM=>by (exact GF q aM b)) (λ aM=>GE))).O Ib).H Nb (bM λ q I b=>baC (PM q I) (λ aN=>by (exact IY q aN b)) (λ aN=>GE));have OI:=(((((OI.O (Φ Y (Φ N C))).H Hz (λ q I h=>by exfalso;(have:=Rb q I;(have:=XO q h;omega)))).O oW).H J8 (bx Rb)).O Ib).H Nb (bx Rb);have X:=(((((X.O (Φ O (Φ Ia (Φ Y (Φ N C))))).H Hz Ag).O oW).H J8 (λ q I h=>by have b:=bah.1 h;exfalso;have:=AS q I;omega)).O Ib).H Nb (λ q I h=>by have b:=bah.1 h;exfalso;have:=AS q I;omega);have t:=(((((t.O (Φ O (Φ Ia (Φ Y (Φ N C))))).H Hz (fa IZ)).O oW).H J8 (bM λ q I b=>by have:=xT q I;have:=HZ q I;omega)).O Ib).H Nb (bx aX);subst nP;rw[ba7]at X;obtain⟨_,hv,_⟩:=aW.zero Kx jh rfl;have hv:g=W:=hv;exact⟨0,f,_,bq,bs,_,L++ [l],Z,.inl ⟨Z,⟨kn,jh,jx⟩,bW,y4,hv,Z⟩,t.dq GE,Tt.dq GE,(X.snoc (OI.dq GE)).dq GE,λ q I=>⟨λ h=>by exfalso;(exact baC (PM q h) (λ Q4=>by (exact IZ q Q4 I)) (λ Q4=>by (have:=xT q I;have:=HZ q I;omega))),λ h=>(RS h).elim (λ h=>by exfalso;(have:=AS q h;(have:=xT q I;have:=HZ q I;omega))) (λ h=>by exfalso;(have:=Rb q h;(have:=xT q I;have:=HZ q I;omega)))⟩,λ q I h=>(RS h).elim (λ h=>by exfalso;(exact baC (PM q I) (λ Q5=>by (exact Ag q h Q5)) (λ Q5=>by (have:=qZ q h;omega)))) (λ h=>by exfalso;(exact baC (PM q I) (λ aP=>by (have:=Rb q h;(have:=XO q aP;omega))) (λ aP=>by (have:=xU q h;omega)))),a3⟩
end
section
def aeD(z:Array Value)(n:Nat):(madeCells z n).toList=(List.range n).map λ i=>z[i % z.size]! :=by
 unfold madeCells;rw[Array.toList_map,Array.toList_range]
theorem aqy(z:Array Value)(b:0<z.size):∀ c:Nat,(List.replicate c z.toList).flatten=(madeCells z (c*z.size)).toList
 | 0=>by simp[aeD]
 | c+1=>by
  rw[bfo,bcO,aqy z b c,aeD,aeD,bb5,List.range_add,baJ,bds];congr 1;rw[bbc,List.flatten_nil,baP];refine List.ext_getElem Kx λ i d e=>?_;have a:i<z.size:=by simpa using d
  rw[bdN,List.getElem_range,Array.getElem_toList];show z[i]=z[(c*z.size+i) % z.size]!;rw[bby,bdl,bbC a,getElem!_pos z i a]
section
variable{P:Program}{n:Nat}{E df:List (Nat×Value)}{a:Act}{w w' w0 a8:World}{Q:Exit->Act->World->Prop}{ops:Array Oper}
variable{d:Nat}{ty:TypeId}{pos:String}{af:Array Edge}{g:Option (Nat×Bool)}{x y z:Operand}{t:TypeId}{rest:List Oper}
theorem aKB{r:Type}{R:τ r}{e by_ B c:Nat}{zv:Value}{q:r}(D:R.Y)(s:P.underlying t=some (.slice e))(v:(P.info? e).map (λ i=>(i.zero,i.size,i.bytes))=some (some zv,R.size,by_))(f:zv.cells.size=R.size)(k:0<R.size)(z:∀(j:Nat) u,zv.cells[j]? =some u->R.raw j u)(I:∀ w,R.bv w zv.cells.toList q)
  (p:ev E x=some (.int .i64 (c:Int)))(g:ev E y=some (.int .i64 (c:Int)))(F:Nat.blt d n=true)(l:c*by_<=140737488355328)(o:c<=9223372036854775807)(C:B<=w.heap.size)
  (h:∀ a b,Ext w a->w.heap.size<=b->R.aM e by_ a B (τ.ai (some ⟨b,0,none⟩)) (some ⟨b,0,none⟩) c (List.replicate c q)->cx P n ops Q rest ((d,.slice (some ⟨b,0,none⟩) c c)::E) a):cx P n ops Q (⟨some d,.makeSlice t x y,ty,pos,af,none⟩::rest) E w:=by
 refine aeE (m:=c) (ess:=List.replicate c zv.cells.toList) D s v f k z p g F (bao _) l o C Kx (λ w=>?_) ?_ h
 .clear h l o p g;induction c with
  | zero=>trivial
  | succ c A=>exact⟨I w,A⟩
 .rw[aqy _ (by rw[f];exact k),f,baE];rw[bcQ,bef];exact bao _
end
end
section
variable{q:Nat}{v:bU}{l:Int}{g:Bool}{o:aS}
def ax2:dU prog bU.ce 33 78 40:=dU.O (z:=bU.zero) (k:=3) underlying33 bU.G rfl rfl GP bU.M
def ax1:dU prog aS.ce 76 43 48:=dU.O (z:=aS.zero) (k:=6) underlying76 aS.G rfl rfl GP aS.M
open fg
def hM(T:List bU):List Nat:=lK (T.map bU.jy)
def axZ(T:List bU):Prop:=∀(i j:Nat) (u v:bU),T[i]? =some u->T[j]? =some v->i≠j->∀ q∈τ.ai u.a,q∉τ.ai v.a
def gb(w:World)(aQ:Nat)(T:List bU)(S:List cq):Prop:=kd w aQ (T.map bU.jy) (S.map cq.O)/\T.map (λ v=>(v.Y,v.da))=S.map (λ s=>(s.Y,s.da))/\axZ T
def RJ{T:List bU}(h:q∈hM T):∃(i:Nat) (v:bU),T[i]? =some v/\q∈τ.ai v.a:=by
 obtain⟨i,v,a,c⟩:=ati h;rw[bau]at a;cases b:T[i]? with
 | none=>rw[b]at a;cases a
 | some u=>rw[b]at a;obtain rfl:=bae a;exact⟨i,u,b,c⟩
def wH{T:List bU}{i:Nat}(h:T[i]? =some v)(I:q∈τ.ai v.a):q∈hM T:=atj (i:=i) (v:=v.jy) (by rw[bau,h];rfl) I
section
variable{w w':World}{aQ vK:Nat}{T:List bU}{S:List cq}{k:Nat}{A:Option Addr}{c:Nat}{s:cq}
def gb.nil(w:World)(aQ:Nat):gb w aQ [] []:=⟨kd.nil _ _,rfl,λ i j u v h=>by simp at h⟩
def gb.O(h:gb w aQ T S)(x:Ext w w'):gb w' aQ T S:=⟨h.1.O x,h.2⟩
def gb.H{B:List Nat}(h:gb w aQ T S)(m:Mod B w w')(a:∀ q∈hM T,q∉B):gb w' aQ T S:=⟨h.1.H m a,h.2⟩
def gb.dq(h:gb w aQ T S)(a:vK<=aQ):gb w vK T S:=⟨h.1.dq a,h.2⟩
def gb.lt(h:gb w aQ T S):∀ q∈hM T,aQ<=q/\q<w.heap.size:=h.1.lt
def gb.Y(h:gb w aQ T S):n9 w T S:=⟨h.1.atg,h.2.1⟩
def ass(h:q∈hM (T++ [v])):q∈hM T\/q∈τ.ai v.a:=by
 unfold hM at h ⊢;rw[baJ]at h;exact RS h
theorem gb.snoc(h:gb w aQ T S)(o:aS.ce.aM 43 48 w aQ (τ.ai A) A c s.O)(k:∀ q∈hM T,q∉τ.ai A):gb w aQ (T++ [⟨A,s.O.length,c,s.Y,s.da⟩]) (S++ [s]):=by
 refine⟨?_,by rw[baJ,baJ,h.2.1];rfl,λ i j u v b a n q I f=>?_⟩
 .rw[baJ,baJ];exact h.1.snoc o
 .have g:=λ{i:Nat} {u:bU} (h:(T++ [(⟨A,s.O.length,c,s.Y,s.da⟩:bU)])[i]? =some u)=>(bab.1 h).1;have l:=g b;have m:=g a;rw[bam,bbo]at l m;rcases ba2 i T.length with d|d<;>rcases ba2 j T.length with e|e
  .rw[baz d]at b;rw[baz e]at a;exact h.2.2 i j u v b a n q I f
  .rw[baz d]at b;rw[baD e,show j-T.length=0 from by omega]at a;obtain rfl:=bae a;exact k q (wH b I) f
  .rw[baD d,show i-T.length=0 from by omega]at b;rw[baz e]at a;obtain rfl:=bae b;exact k q (wH a f) I
  .omega
def gb.get(h:gb w aQ T S)(e:k<T.length):∃(A:Option Addr) (c:Nat) (s:cq),T[k]? =some ⟨A,s.O.length,c,s.Y,s.da⟩/\S[k]? =some s/\aS.ce.aM 43 48 w aQ (τ.ai A) A c s.O:=by
 obtain⟨A,c,s,a,b,g⟩:=h.Y.d9 e;obtain⟨l,d,i,f⟩:=h.1.2 k ⟨A,s.O.length,c⟩ (by rw[bau,a];rfl);rw[bau,b]at d;obtain rfl:=bae d;exact⟨A,c,s,a,b,f⟩
theorem gb.set(h:gb w aQ T S)(e:k<T.length)(o:aS.ce.aM 43 48 w aQ (τ.ai A) A c s.O)(m:∀(i:Nat) (u:bU),T[i]? =some u->i≠k->∀ q∈τ.ai u.a,q∉τ.ai A):gb w aQ (T.set k ⟨A,s.O.length,c,s.Y,s.da⟩) (S.set k s):=by
 have x:k<S.length:=by rw[<-h.Y.len];exact e
 refine⟨⟨by simp[h.Y.len],λ i v a=>?_⟩,?_,λ i j u v a b f q I g=>?_⟩
 .rw[bbA]at a;by_cases d:k=i
  .subst d;rw[baw (by simpa using e)]at a;obtain rfl:=bae a;exact⟨s.O,by rw[bbA,baw (by simpa using x)],rfl,o⟩
  .rw[baH d]at a;obtain⟨l,p,r,t⟩:=h.1.2 i v a;exact⟨l,by rw[bbA,baH d];exact p,r,t⟩
 .rw[bbA,bbA,h.2.1]
 .by_cases d:k=i
  .subst d;rw[baw e]at a;obtain rfl:=bae a;rw[baH f]at b;exact m j v b (bdg f) q g I
  .rw[baH d]at a;by_cases n:k=j
   .subst n;rw[baw e]at b;obtain rfl:=bae b;exact m i u a f q I g
   .rw[baH n]at b;exact h.2.2 i j u v a b f q I g
theorem gb.out(h:gb w aQ T S)(d:k<T.length):∃(A:Option Addr) (c:Nat) (s:cq),T[k]? =some ⟨A,s.O.length,c,s.Y,s.da⟩/\S[k]? =some s/\aS.ce.aM 43 48 w aQ (τ.ai A) A c s.O/\gb w aQ (T.set k ⟨none,0,0,s.Y,s.da⟩) (S.set k ⟨[],s.Y,s.da⟩)/\(∀ q∈τ.ai A,q∈hM T)/\∀ q∈hM (T.set k ⟨none,0,0,s.Y,s.da⟩),q∈hM T/\q∉τ.ai A:=by
 obtain⟨A,c,s,b,g,j⟩:=h.get d;refine⟨A,c,s,b,g,j,h.set (s:=⟨[],s.Y,s.da⟩) d (τ.aM.nil _) (λ i u _ _ q _ I=>by simp[τ.ai]at I),λ q I=>wH b I,λ q I=>?_⟩;obtain⟨i,v,a,e⟩:=RJ I;by_cases f:k=i
 .subst f;rw[baw d]at a;obtain rfl:=bae a;simp[τ.ai]at e
 .rw[baH f]at a;exact⟨wH a e,h.2.2 i k v _ a b (bdg f) q e⟩
def gb.back(h:gb w aQ (T.set k ⟨none,0,0,l,g⟩) (S.set k ⟨[],l,g⟩))(d:k<T.length)(o:aS.ce.aM 43 48 w aQ (τ.ai A) A c s.O)(e:∀ q∈hM (T.set k ⟨none,0,0,l,g⟩),q∉τ.ai A):gb w aQ (T.set k ⟨A,s.O.length,c,s.Y,s.da⟩) (S.set k s):=by
 have a:=h.set (k:=k) (s:=s) (by simpa using d) o (λ i u b _ q I=>e q (wH b I));rw[bet,bet]at a;exact a
def RK(h:q∈hM (T.set k v)):q∈hM (T.set k ⟨none,0,0,v.Y,v.da⟩)\/q∈τ.ai v.a:=by
 obtain⟨i,u,a,c⟩:=RJ h;by_cases b:k=i
 .subst b;rw[baw (by have:=(bab.1 a).1;simpa using this)]at a;obtain rfl:=bae a;exact .inr c
 .rw[baH b]at a;exact .inl (wH (i:=i) (by rw[baH b];exact a) c)
end
def RI(S:List cq)(o:aS):Prop:=vH S/\o.br=0/\∃ s,S[o.by_.toNat]? =some s/\s.da=false/\s.O.length≠50
def Kt(S:List cq)(o:aS):List cq:=match S[o.by_.toNat]? with|some s=>S.set o.by_.toNat ⟨s.O++ [o],s.Y,s.da⟩|none=>S
def ap7(S:List cq)(p:Int):Prop:=vH S/\0<=p/\∃ s,S[p.toNat]? =some s/\s.da=false
def aia(a:Prop)(S:List cq)(e:Int)(b:List cq):Prop:=(e=0/\a/\b=S)\/(e≠0/\¬a/\b=[])
def CJ(S:List cq)(p:Int):List cq:=S.set p.toNat ⟨[],0,true⟩
def Xx{T:List bU}{k:Nat}(h:q∈hM (T.set k ⟨none,0,0,l,g⟩)):q∈hM T:=by
 obtain⟨i,u,a,b⟩:=RJ h;by_cases c:k=i
 .subst c;rw[baw (by have:=(bab.1 a).1;simpa using this)]at a;obtain rfl:=bae a;simp[τ.ai]at b
 .rw[baH c]at a;exact wH a b
def asr{n:Nat}(h:q∈hM (List.replicate n default)):False:=by
 obtain⟨i,u,a,b⟩:=RJ h;rw[bbn]at a;split at a
 .obtain rfl:=bae a;simp[τ.ai,default]at b
 .cases a
def gb.aNR(w:World)(aQ n:Nat):gb w aQ (List.replicate n default) (List.replicate n ⟨[],0,false⟩):=by
 refine⟨⟨Kx,λ i v h=>?_⟩,by simp[default],λ i j u v b _ _ q I=>(asr (wH b I)).elim⟩;rw[bfC]at h;have a:i<n:=by have:=(bab.1 h).1;simpa using this
 rw[bbn,bap a]at h;obtain rfl:=bae h;exact⟨[],by rw[bfC,bbn,bap a],rfl,τ.aM.nil _⟩
def ajc(h:o.br=0):0<=o.by_/\o.by_<=7:=by
 cases a:o.HJ with
 | true=>rw[aS.ajb a]at h;cases h
 | false =>
  unfold aS.HJ at a;simp only[baN,bbK]at a;have:=a.1.1.1.1.1;unfold bA at this;simp at this;exact this
def asp{S:List cq}{s:cq}(h:S[o.by_.toNat]? =some s):Kt S o=S.set o.by_.toNat ⟨s.O++ [o],s.Y,s.da⟩:=by unfold Kt;rw[h]
theorem afI(A:Option Addr)(c:Nat)(T:List bU)(S:List cq)(w:World)(o:bU.ce.aF 40 w A c T)(Y:n9 w T S):
  Calls prog 35 #[.slice A T.length c] w (λ e w'=>∃(y:Option Addr) (V:Nat) (D:List bU),e=.returned (.slice y D.length V)/\bU.ce.aM 78 40 w' w.heap.size (τ.ai y) y V D/\gb w' w.heap.size D S/\(∀ q∈τ.ai y,q∉hM D)/\Ext w w'):=by
 have Hc:=o.M;have VE:=o.2.2.1;refine bT (n:=25) func35 Z Z Z ?_;refine ar<|aG Z<|aC Z<|κ (bY underlying33 Z)<|Ws (R:=bU.ce) (by_:=40) (B:=w.heap.size) (c:=T.length) (zv:=bU.zero) τ.nc underlying33 bU.G Z GP bU.M Z Z Z GE GE GE λ U a6 N cY Gc=>?_;have:=N.size;refine aG Z<|av<|aC Z<|κ (bY underlying33 Z)<|vm Z<|ax<|bp<|?_;refine di (λ bJ bH x=>∃ k:Nat,∃ f:List bU,∃ i:Option Addr,∃ z:Nat,bH=[(2,.slice none 0 0),(3,.slice i f.length z),(9,.slice A T.length c),(10,J (T.length:Int)),(11,J (k:Int))]/\bJ=T.length-k/\Ext w x/\bU.ce.aM 78 40 x w.heap.size (τ.ai i) i z f/\gb x U.heap.size f (S.take k)/\(k<=T.length)/\(f.length=k)/\(U.heap.size<=x.heap.size)/\(∀ q∈hM f,q∈τ.ai i->False)) _ _ ⟨0,[],some ⟨a6,0,none⟩,T.length,Z,Z,N,Gc,(gb.nil _ _),GE,rfl,bao _,λ q a g=>by simp[hM,lK]at a⟩ (c' Z Z Z) ?_;rintro J0 Y1 qs ⟨k,f,i,z,rfl,rfl,r,j,l,au,P4,ai,G⟩;have:=r.size;have v:=b4 j.lt;have UY:∀ q∈τ.ai i,w.heap.size<=q:=λ q I=>(j.lt q I).1;have E:∀ q∈hM f,q<qs.heap.size:=λ q I=>(l.lt q I).2;refine ar<|cF Z Z<|ax<|av<|?_;refine c7 Z (λ aa=>?_) (λ aa=>?_)
 .obtain⟨fQ,dC,b,X,vZ,hx⟩:=Y.d9 (k:=k) GE;refine bf<|av<|bp<|ar<|κ (bD k underlying33 ih Z Z ((o.be r).Y (aL k)) Z GE)<|κ (aq Z (τ.aF.G mG ((o.be r).O (aL k)) X vT ih))<|cy GN Z λ fx e_ L oM d=>?_;have cj:=Φ r L;have wF:=d.lt;refine ck Z Z d Z ih Z Z λ mn u d=>?_;have:=u.size;have W:=Ext.H cj u bn;refine ax<|ar<|κ (aj p3 Z)<|a1 Z d nb Z<|ca Py Z Z ((Pj _ _ b.O _ (hx.be W)).mono ?_);rintro e rI ⟨H,K,rfl,m,ah,p⟩;refine cR ?_;have:=p.size;have ic:=Φ W p;have pL:=b4 m.lt;have F:=dZ m.lt;refine κ (aj p3 Z)<|?_;have d:=d.O p;refine ep Z Z d Z Ao Z Z λ xX t d=>?_;have:=t.size;have lu:=Ext.H ic t bn;refine ax<|rg<|vm Z<|κ (aq Z (d.all vT ih))<|cT (e:=78) (cs:=[.slice H ((b.O).length) K,J b.Y,.bool b.da]) Z (λ _=>GT) Z λ KF TW s ak M=>?_;have:=s.size;have qv:=Φ lu s;have ag:=M.lt;have j:=((((j.O L).H u (bV v)).O p).H t (bV v)).O s;refine ap ax2 τ.O j (aO.G (R:=bU.ce) (by_:=40) (q:=(⟨H,(b.O).length,K,b.Y,b.da⟩:bU)) M ⟨Z,(show gg b.Y from bU.C o _ (baQ X))⟩ GP) Z Z (by simp only[baj,baq];omega) (by simp only[baj,baq];omega) GE Z λ rJ ad ab C ae O af=>?_;have:=C.size;have gU:=Ext.H qv C (λ q I=>bay GE (j.lt q I).1);refine va Z<|nl<|bK<|cW Z Z Z<|?_;have l:=(((((l.O L).H u (bV E)).O p).H t (bV E)).O s).H C G;have m:=((m.H t (bx F)).O s).H C (λ q I h=>by exfalso;(have:=F q I;(have:=v q h;omega)));exact cM ⟨k+1,f++ [(⟨H,(b.O).length,K,b.Y,b.da⟩:bU)],ad,ab,Z,Z,gU,ae,(by rw[C2 vZ];exact l.snoc (m.dq GE) (λ q a g=>by exfalso;(have:=F q g;(have:=E q a;omega)))),GE,by rw[bam,P4];rfl,GE,λ q a g=>(ass a).elim (λ a=>by exfalso;(exact baC (O q g) (λ P=>by (exact G q a P)) (λ P=>by (have:=E q a;omega)))) (λ a=>by exfalso;(exact baC (O q g) (λ Q=>by (have:=F q a;(have:=v q Q;omega))) (λ Q=>by (have:=pL q a;omega))))⟩
 .have nP:k=S.length:=by rw[<-Y.len];omega
  refine cI<|cH<|cU<|cG<|a7<|aC Z<|bc Z<|b3 Z Z<|?_;subst nP;rw[ba7]at l;exact⟨i,z,f,Z,j,l.dq GE,λ q a g=>G q g a,r⟩
theorem aPo(A:Option Addr)(c:Nat)(T:List bU)(S:List cq)(o:aS)(w:World)(p:bU.ce.aF 40 w A c T)(D:n9 w T S)(ct:o.ok):
  Calls prog 11 #[.slice A T.length c,.agg #[J o.by_,J o.O,J o.H,J o.an.x,J o.an.y,J o.Y]] w (λ e w'=>∃(e':Int) (H:Option Addr) (cn:Nat) (L:List bU) (pX:List cq),e=.returned (.tuple #[.slice H L.length cn,J e'])/\aia (RI S o) (Kt S o) e' pX/\bU.ce.aM 78 40 w' w.heap.size (τ.ai H) H cn L/\gb w' w.heap.size L pX/\(∀ q∈τ.ai H,q∉hM L)/\Ext w w'):=by
 have Hc:=p.M;have VE:=p.2.2.1;refine bT (n:=58) func11 Z Z Z ?_;refine cZ Z Z λ ch a6 V cY b=>?_;have gp:=b.lt;refine va Z<|aG Z<|aC Z<|ca Uw Z Z ((Xw _ _ T S _ (p.be V) (D.be V)).mono ?_);rintro e qs ⟨S1,rfl,ad,Y⟩;refine cR ?_;have:=Y.size;have gi:=Φ V Y;refine aG Z<|av<|aC Z<|κ (beq Z Z)<|ax<|?_;refine j1 Z (λ N=>?_) (λ N=>?_)
 .have Jg:=ad.1 (by simpa using N);refine rg<|?_;have b:=b.O Y;refine κ (aq Z (b.all iw eu))<|cf aa8 Z (aeQ o _) λ Bm ny=>?_;have:=ny.size;have f:=Φ gi ny;refine aG Z<|av<|bp<|aC Z<|cV Z Z<|aG Z<|?_;refine fr Z (λ r9=>?_) (λ r9=>?_)
  .refine dP<|bK<|a7<|av<|aC Z<|cV Z Z<|ax<|?_;refine fr Z (λ am=>?_) (λ am=>?_)
   .refine aC Z<|va Z<|bc Z<|bR<|hE Z Z Z<|?_;exact⟨o.br,none,0,[],[],Z,.inr ⟨GE,(λ bu=>absurd bu.2.1 (by simpa using r9)),Z⟩,τ.aM.nil _,gb.nil _ _,λ q I=>by simp[τ.ai]at I,f⟩
   .exfalso;omega
  .have si:o.br=0:=by simpa using r9
   have du:=ajc si;refine ar<|κ (aj ri Z)<|?_;have b:=b.O ny;refine a1 Z b aH Z<|vm Z<|κ (bY underlying33 Z)<|κ (iV Z Z)<|aG Z<|?_;refine xp Z (λ lD=>?_) (λ lD=>?_)
   .refine rg<|va Z<|nl<|bK<|a7<|av<|aC Z<|cV Z Z<|ax<|fB Z<|aC Z<|va Z<|bc Z<|bR<|hE Z Z Z<|?_;exact⟨7,none,0,[],[],Z,.inr ⟨GP,(by rintro⟨_,_,s,r,_⟩;have:=(bab.1 r).1;have:=D.len;omega),Z⟩,τ.aM.nil _,gb.nil _ _,λ q I=>by simp[τ.ai]at I,f⟩
   .have bW:o.by_.toNat<T.length:=GE
    obtain⟨fQ,dC,a,gD,y,hx⟩:=D.d9 bW;refine aC Z<|κ (aj ri Z)<|a1 Z b aH Z<|κ (bD o.by_.toNat underlying33 ih Z Z ((p.be f).Y (aL o.by_.toNat)) GE GE)<|κ (aj Cq Z)<|κ (v:=.bool a.da) (aq Z (τ.aF.C mG ((p.be f).O (aL o.by_.toNat)) 2 gD Z At))<|aG Z<|?_;refine dB Z (λ qM=>?_) (λ qM=>?_)
    .refine rg<|va Z<|nl<|bK<|a7<|av<|aC Z<|cV Z Z<|ax<|fB Z<|aC Z<|va Z<|bc Z<|bR<|hE Z Z Z<|?_;exact⟨9,none,0,[],[],Z,.inr ⟨GP,(by rintro⟨_,_,s,r,aW,_⟩;rw[y]at r;obtain rfl:=bae r;rw[qM]at aW;cases aW),Z⟩,τ.aM.nil _,gb.nil _ _,λ q I=>by simp[τ.ai]at I,f⟩
    .refine aC Z<|κ (aj ri Z)<|a1 Z b aH Z<|κ (bD o.by_.toNat underlying33 ih Z Z ((p.be f).Y (aL o.by_.toNat)) GE GE)<|κ (aj p3 Z)<|κ (v:=.slice fQ a.O.length dC) (aq Z (τ.aF.C mG ((p.be f).O (aL o.by_.toNat)) 0 gD Z nb))<|κ (bY underlying76 Z)<|κ (beq Z Z)<|aG Z<|?_;refine j1 Z (λ ux=>?_) (λ ux=>?_)
     .refine rg<|va Z<|nl<|bK<|a7<|av<|aC Z<|cV Z Z<|ax<|fB Z<|aC Z<|va Z<|bc Z<|bR<|hE Z Z Z<|?_;exact⟨6,none,0,[],[],Z,.inr ⟨GP,(by rintro⟨_,_,s,r,_,az⟩;rw[y]at r;obtain rfl:=bae r;omega),Z⟩,τ.aM.nil _,gb.nil _ _,λ q I=>by simp[τ.ai]at I,f⟩
     .have aD:a.O.length<=50:=(Jg.2.2 _ a y).1;have ai:a.O.length≠50:=GE
      refine dP<|bK<|a7<|av<|aC Z<|cV Z Z<|ax<|?_;refine fr Z (λ tl=>?_) (λ tl=>?_)
      .exfalso;omega
      .refine bf<|aC Z<|ca abh Z Z ((afI _ _ T S _ (p.be f) (D.be f)).mono ?_);rintro e ow ⟨K9,aA,U,rfl,m,aa,af,cK⟩;refine cR ?_;have:=cK.size;have fP:=Φ f cK;have HW:=b4 m.lt;refine aG Z<|av<|?_;have GZ:U.length=T.length:=by have:=aa.Y.len;have:=D.len;omega
       obtain⟨t,rY,ao,Mq,Vj,z,F,pB,ag⟩:=aa.out (k:=o.by_.toNat) GE;obtain rfl:a=ao:=by rw[y]at Vj;exact bae Vj
       have ak:=dZ z.lt;have G:∀ q∈τ.ai t,q∈τ.ai K9->False:=λ q g d=>af q d (pB q g);have al:=b4 F.lt;have Up:∀ q∈hM (U.set (o.by_.toNat) ⟨none,0,0,a.Y,a.da⟩),q∈τ.ai K9->False:=λ q g d=>af q d (ag q g).1;have ab:∀ q∈hM (U.set (o.by_.toNat) ⟨none,0,0,a.Y,a.da⟩),q∈τ.ai t->False:=λ q g d=>(ag q g).2 d;refine RB (τ.ai t) [(2,0),(5,0),(8,0),(9,0),(10,2),(11,2),(14,3)] [0,1,2,3,4,5,6,7,8,9,10,11,12,13,14] GT GT ?_;refine kR Z Z (λ _=>fW Z) Z<|kR Z Z (λ _=>aj ri Z) Z<|?_;have b:=b.O cK;have xr:∀ q∈τ.ai t,q=a6->False:=λ q I ae=>by (have:=ak q I;omega)
       refine yQ Z Z (λ _ x=>aq Z ((b.H x (λ I=>xr _ I Z)).one aH Z)) Z<|kR Z Z (λ _=>fW Z) Z<|kR Z Z (λ _=>aj ri Z) Z<|yQ Z Z (λ _ x=>aq Z ((b.H x (λ I=>xr _ I Z)).one aH Z)) Z<|kR Z Z (λ _=>bD o.by_.toNat underlying33 ih Z Z (m.bv.Y (aL o.by_.toNat)) GE GE) Z<|kR Z Z (λ _=>aj p3 Z) Z<|yQ (v:=.slice t a.O.length rY) Z Z (λ _ x=>aq Z (τ.aF.C mG ((m.H x (fa G)).bv.O (aL o.by_.toNat)) 0 Mq Z nb)) Z<|yQ Z Z (λ _ x=>aq Z ((b.H x (λ I=>xr _ I Z)).all iw eu)) Z<|GV Z Z Z λ rI u Q C=>cT (e:=43) (cs:=[J o.by_,J o.O,J o.H,J o.an.x,J o.an.y,J o.Y]) Z (λ _=>GT) Z λ pM Gr B Q9 o6=>C _ _ ⟨Mod.O (Φ u B),?_⟩;have:=u.size;have ic:=Φ fP u;have iE:=Φ ic B;have ay:=o6.lt;have z:=z.O (Φ u B);refine GV Z Z Z λ sN l Q C=>ap ax1 τ.O (z.O l) ((aO.G (R:=aS.ce) (by_:=48) (q:=o) o6 ⟨Z,ct⟩ GP).be l) Z Z (by first|(simp<;>omega)|omega) (by first|(simp<;>omega)|omega) (by have:=l.size;omega) Z λ X5 lO au M O W aw=>C _ _ ⟨(Mod.O l).trans M,?_⟩;have:=l.size;have ku:=Φ iE l;have FE:=Ext.H ku M (λ q I=>bay GE ((z.O l).lt q I).1);have m:=(m.O (Φ u (Φ B l))).H M (fa G);refine kR Z Z (λ _=>bD o.by_.toNat underlying33 ih Z Z (m.bv.Y (aL o.by_.toNat)) GE GE) Z<|kR Z Z (λ _=>aj p3 Z) Z<|UN Z Z Z λ Bq E Q C=>so (q':=(⟨lO,(a.O++ [o]).length,au,(⟨t,a.O.length,rY,a.Y,a.da⟩:bU).Y,(⟨t,a.O.length,rY,a.Y,a.da⟩:bU).da⟩:bU)) (j:=0) (i:=o.by_.toNat) (m.O E) τ.O Mq Z Z Z Z (λ _ cs h=>by have mK:=(show _/\_ from h).2;obtain rfl:=mG h;exact⟨rfl,mK⟩) Z Z Ao λ aB X P=>C _ _ ?_;have mT:=Φ FE E;have K6:=Ext.H mT X (λ q I=>bay GE ((m.O E).lt q I).1);refine PF λ KJ K=>?_;have vv:=Φ K6 K;refine a7<|aC Z<|va Z<|bc Z<|hE Z Z Z<|?_;have P:=P.O K;have F:=((((F.O (Φ u (Φ B l))).H M ab).O E).H X Up).O K;have O:=((O.O E).H X (oq W G HW)).O K;have bB:=gb.back (s:=⟨a.O++ [o],a.Y,a.da⟩) F GE O (fa (oq W (fa ab) al));exact⟨0,_,_,_,Kt S o,by rw[bak];rfl,.inl ⟨rfl,⟨Jg,si,a,y,by simpa using qM,ai⟩,rfl⟩,P.dq GE,by rw[asp y];exact bB.dq GE,λ q g d=>(RK d).elim (λ d=>Up q d g) (λ d=>by exfalso;(exact baC (W q d) (λ Hs=>by (exact G q Hs g)) (λ Hs=>by (have:=HW q g;omega)))),vv⟩
 .refine bf<|av<|bp<|aC Z<|cV Z Z<|aG Z<|?_;refine fr Z (λ an=>?_) (λ an=>?_)
  .refine dP<|bK<|a7<|av<|aC Z<|cV Z Z<|ax<|?_;refine fr Z (λ ah=>?_) (λ ah=>?_)
   .refine aC Z<|va Z<|bc Z<|bR<|hE Z Z Z<|?_;exact⟨S1,none,0,[],[],Z,.inr ⟨(by simpa using N),(λ bu=>(show ¬S1=0 by simpa using N) (ad.2 bu.1)),Z⟩,τ.aM.nil _,gb.nil _ _,λ q I=>by simp[τ.ai]at I,gi⟩
   .exfalso;omega
  .exfalso;omega
theorem aO9(A:Option Addr)(c:Nat)(T:List bU)(S:List cq)(p:Int)(w:World)(b:bU.ce.aF 40 w A c T)(f:n9 w T S):
  Calls prog 40 #[.slice A T.length c,J p] w (λ e w'=>∃(E:Int) (h:Option Addr) (D:Nat) (o:List bU) (G:List cq),e=.returned (.tuple #[.slice h o.length D,J E])/\aia (ap7 S p) (CJ S p) E G/\bU.ce.aM 78 40 w' w.heap.size (τ.ai h) h D o/\gb w' w.heap.size o G/\(∀ q∈τ.ai h,q∉hM o)/\Ext w w'):=by
 have Hc:=b.M;have VE:=b.2.2.1;refine bT (n:=37) func40 Z Z Z ?_;refine ar<|va Z<|aG Z<|aC Z<|ca Uw Z Z ((Xw _ _ T S _ (b.be (Ext.U w)) (f.be (Ext.U w))).mono ?_);rintro e kr ⟨y,rfl,H,a⟩;refine cR ?_;have:=a.size;refine aG Z<|av<|bp<|aC Z<|cV Z Z<|aG Z<|?_;refine fr Z (λ m=>?_) (λ m=>?_)
 .refine dP<|bK<|a7<|av<|aC Z<|cV Z Z<|ax<|?_;refine fr Z (λ kS=>?_) (λ kS=>?_)
  .refine aC Z<|va Z<|bc Z<|bR<|hE Z Z Z<|?_;exact⟨y,none,0,[],[],Z,.inr ⟨(by simpa using m),(λ U=>(show ¬y=0 by simpa using m) (H.2 U.1)),Z⟩,τ.aM.nil _,gb.nil _ _,λ q I=>by simp[τ.ai]at I,a⟩
  .exfalso;omega
 .have L:=H.1 (by simpa using m);refine aC Z<|cF Z Z<|vm Z<|er Z Z<|er Z Z<|aR Z (λ j=>bY underlying33 (gt j Z))<|aR Z (λ j=>iV (gt j Z) (gt j Z))<|κ (dS Z Z Z Z)<|aG Z<|?_;refine dB Z (λ t=>?_) (λ t=>?_)
  .simp only[cb]at t;refine rg<|va Z<|nl<|bK<|a7<|av<|aC Z<|cV Z Z<|ax<|fB Z<|aC Z<|va Z<|bc Z<|bR<|hE Z Z Z<|?_;exact⟨7,none,0,[],[],Z,.inr ⟨GP,(by rintro⟨_,aN,s,l,_⟩;have:=(bab.1 l).1;have:=f.len;omega),Z⟩,τ.aM.nil _,gb.nil _ _,λ q I=>by simp[τ.ai]at I,a⟩
  .simp only[cb]at t;have R:p.toNat<T.length:=GE
   have N:0<=p:=GE
   obtain⟨fQ,dC,C,V,F,hx⟩:=f.d9 R;refine aC Z<|vm Z<|κ (bD p.toNat underlying33 ih Z Z ((b.be a).Y (aL p.toNat)) GE GE)<|κ (aj Cq Z)<|κ (v:=.bool C.da) (aq Z (τ.aF.C mG ((b.be a).O (aL p.toNat)) 2 V Z At))<|aG Z<|?_;refine dB Z (λ x=>?_) (λ x=>?_)
   .refine rg<|va Z<|nl<|bK<|a7<|av<|aC Z<|cV Z Z<|ax<|fB Z<|aC Z<|va Z<|bc Z<|bR<|hE Z Z Z<|?_;exact⟨8,none,0,[],[],Z,.inr ⟨GP,(by rintro⟨_,_,s,l,z⟩;rw[F]at l;obtain rfl:=bae l;rw[x]at z;cases z),Z⟩,τ.aM.nil _,gb.nil _ _,λ q I=>by simp[τ.ai]at I,a⟩
   .refine dP<|bK<|a7<|av<|aC Z<|cV Z Z<|ax<|?_;refine fr Z (λ W=>?_) (λ W=>?_)
    .exfalso;omega
    .refine bf<|aC Z<|ca abh Z Z ((afI _ _ T S _ (b.be a) (f.be a)).mono ?_);rintro e Bm ⟨aa,ab,P,rfl,r,g,B,ny⟩;refine cR ?_;have Y:=Φ a ny;refine aG Z<|av<|?_;have GZ:P.length=T.length:=by have:=g.Y.len;have:=f.len;omega
     refine rg<|vm Z<|vm Z<|κ (v:=.agg #[.slice none 0 0,J 0,.bool true]) (ee Z)<|κ (bD p.toNat underlying33 ih Z Z (r.bv.Y (aL p.toNat)) GE GE)<|RP (q':=(⟨none,0,0,0,true⟩:bU)) (i:=p.toNat) r τ.O GE Z Z Z Z (λ _=>⟨Z,ea⟩) ih λ rH K M=>?_;have X:=Ext.H Y K (λ q I=>bay GE (r.lt q I).1);refine ax<|aC Z<|va Z<|bc Z<|hE Z Z Z<|?_;have g:=g.H K (fa B);have Q:=gb.set (A:=none) (c:=0) (s:=⟨[],0,true⟩) (k:=p.toNat) g GE (τ.aM.nil _) (λ i u _ _ q _ I=>by simp[τ.ai]at I);exact⟨0,_,_,_,CJ S p,by rw[bak];rfl,.inl ⟨rfl,⟨L,N,C,F,by simpa using x⟩,rfl⟩,M.dq GE,Q.dq GE,λ q O d=>(RK d).elim (λ d=>B q O (Xx d)) (λ d=>by simp[τ.ai]at d),X⟩
theorem aPe(n:Nat)(g:1<=n)(m:n<=8)(w:World):
  Calls prog 42 #[J (n:Int)] w (λ e w'=>∃(a:Option Addr) (d:Nat),e=.returned (.tuple #[.slice a (List.replicate n (default:bU)).length d,J 0])/\bU.ce.aM 78 40 w' w.heap.size (τ.ai a) a d (List.replicate n default)/\gb w' w.heap.size (List.replicate n default) (List.replicate n ⟨[],0,false⟩)/\(∀ q∈τ.ai a,q∉hM (List.replicate n (default:bU)))/\Ext w w'):=by
 refine bT (n:=12) func42 Z Z Z ?_;refine ar<|va Z<|aG Z<|av<|aC Z<|cF Z Z<|vm Z<|er Z Z<|aR Z (λ j=>gy (gt j Z) Z)<|κ (dS Z Z Z Z)<|ax<|?_;refine dB Z (λ b=>?_) (λ b=>?_)
 .simp only[cb]at b;exfalso;omega
 .simp only[cb]at b;refine bf<|aC Z<|aKB (R:=bU.ce) (by_:=40) (B:=w.heap.size) (c:=n) (zv:=bU.zero) (q:=default) τ.nc underlying33 bU.G Z GP bU.M (λ _=>⟨Z,b7.2 GP⟩) Z Z Z GE GE GE λ o f k l i=>?_;refine va Z<|bc Z<|hE Z Z Z<|?_;exact⟨some ⟨f,0,none⟩,n,by rw[baK];rfl,i,gb.aNR _ _ _,λ q g h=>asr h,k⟩
end
section
variable{α:Type}{B:List Nat}{s:cq}{q m f:Nat}{g:Bool}
def ax0:dU prog aS.ce 76 43 48:=dU.O (z:=aS.zero) (k:=6) underlying76 aS.G rfl rfl GP aS.M
open fg
def axY{R:τ α}{w:World}{aQ e by_ c:Nat}{A:Option Addr}{l:List α}(h:R.aM e by_ w aQ (τ.ai A) A c l):∀ q∈τ.ai A,∃ cur:List Value,aO w q cur e (0,0):=λ q I=>by
 obtain⟨_,i,_,_,⟨_,d⟩,_⟩:=h;rcases d with⟨a,_⟩|⟨g,f,cur,a,_,b,_⟩
 .injection a with a;subst a;simp[τ.ai]at I
 .injection a with a;subst a
  obtain rfl:=bah.1 I;exact⟨cur.toList,by simpa[aO]using b⟩
structure ue(w:World)(aQ:Nat)(A:Option Addr)(c:Nat)(l:List aS):Prop where
 bv:aS.ce.aF 48 w A c l
 lt:∀ q∈τ.ai A,aQ<=q/\q<w.heap.size
 row:∀ q∈τ.ai A,∃ cur:List Value,aO w q cur 43 (0,0)
theorem aLN{A:Option Addr}{c:Nat}{l:List aS}{S:List Nat}{w w':World}(h:aS.ce.aF 48 w A c l)(m:Mod S w w')(i:∀ q∈τ.ai A,q<w.heap.size)(s:∀ x∈τ.ai A,x∉S):aS.ce.aF 48 w' A c l:=by
 obtain⟨d,e,f,k,ess,g,n,p⟩:=h;refine⟨d,e,f,k,ess,g,n,λ a=>?_⟩
 .obtain⟨b,o,rfl,r⟩:=p a;refine⟨b,o,Z,λ j u t=>?_⟩;rw[<-r j u t];have:=m.block b (i b (bah.2 rfl)) (s b (bah.2 rfl));simp only[World.cell?,this]
section
variable{w w':World}{aQ vK:Nat}{A:Option Addr}{c:Nat}{l:List aS}{T:List bU}{S:List cq}{k i:Nat}
def ue.H(h:ue w aQ A c l)(m:Mod B w w')(b:∀ x∈τ.ai A,x∉B):ue w' aQ A c l :=
 ⟨aLN h.bv m (λ q I=>(h.lt q I).2) b,λ q I=>⟨(h.lt q I).1,bba (h.lt q I).2 m.size⟩,λ q I=>by
  obtain⟨cur,a⟩:=h.row q I;exact⟨cur,by unfold aO;rw[m.block q a.lt (b q I)];exact a⟩⟩
def ue.O(h:ue w aQ A c l)(x:Ext w w'):ue w' aQ A c l:=h.H (B:=[]) (Mod.O x) λ _ _ h=>by simp at h
def ue.of(h:aS.ce.aM 43 48 w aQ (τ.ai A) A c l):ue w aQ A c l:=⟨h.bv,λ q I=>h.lt q I,axY h⟩
def afx{lo s:Nat}(h:q∈τ.ai (fX A c lo s)):q∈τ.ai A:=by
 unfold fX at h;split at h
 .exact h
 .cases A with
  | none=>exact h
  | some a =>
   have e:(a.add (lo*s)).block=a.block:=by unfold Addr.add;split<;>rfl
   have h:q∈ [(a.add (lo*s)).block]:=h;rw[e]at h;exact h
def ue.cut(h:ue w aQ A c l)(b:0<l.length):ue w aQ (fX A c 1 6) (c-1) (l.drop 1):=by
 have a:=h.bv.sub 1 l.length GE GE;rw[baE (by rw[bax];exact bao _)]at a;exact⟨a,λ q I=>h.lt q (afx I),λ q I=>h.row q (afx I)⟩
def jG(w:World)(aQ:Nat)(T:List bU)(S:List cq):Prop:=T.map (λ v=>(v.Y,v.da))=S.map (λ s=>(s.Y,s.da))/\∀(i:Nat) (v:bU),T[i]? =some v->∃ s:cq,S[i]? =some s/\v.n=s.O.length/\ue w aQ v.a v.c s.O
def jG.len(h:jG w aQ T S):T.length=S.length:=by have:=bbh List.length h.1;simpa using this
def jG.H(h:jG w aQ T S)(m:Mod B w w')(e:∀ q∈hM T,q∉B):jG w' aQ T S:=⟨h.1,λ i v a=>by
 obtain⟨s,b,c,d⟩:=h.2 i v a;exact⟨s,b,c,d.H m λ q I=>e q (wH a I)⟩⟩
def jG.O(h:jG w aQ T S)(x:Ext w w'):jG w' aQ T S:=⟨h.1,λ i v c=>by
 obtain⟨s,a,b,d⟩:=h.2 i v c;exact⟨s,a,b,d.O x⟩⟩
def jG.dq(h:jG w aQ T S)(e:vK<=aQ):jG w vK T S:=⟨h.1,λ i v d=>by
 obtain⟨s,b,c,a⟩:=h.2 i v d;exact⟨s,b,c,a.bv,λ q I=>⟨bay e (a.lt q I).1,(a.lt q I).2⟩,a.row⟩⟩
def jG.lt(h:jG w aQ T S):∀ q∈hM T,aQ<=q/\q<w.heap.size:=λ q I=>by
 obtain⟨i,v,a,I⟩:=RJ I;obtain⟨s,c,d,b⟩:=h.2 i v a;exact b.lt q I
def jG.nil(w:World)(aQ:Nat):jG w aQ [] []:=⟨rfl,λ i v h=>by simp at h⟩
def gb.NF(h:gb w aQ T S):jG w aQ T S:=⟨h.2.1,λ i v b=>by
 obtain⟨A,c,s,a,d,e⟩:=h.get (k:=i) (bab.1 b).1;rw[b]at a;obtain rfl:=bae a;exact⟨s,d,Z,ue.of e⟩⟩
def jG.Y(h:jG w aQ T S):n9 w T S:=by
 refine⟨⟨by simp[h.len],λ i v a=>?_⟩,h.1⟩;rw[bau]at a;cases b:T[i]? with
 | none=>rw[b]at a;cases a
 | some u =>
  rw[b]at a;obtain rfl:=bae a;obtain⟨s,c,d,e⟩:=h.2 i u b;exact⟨s.O,by rw[bau,c];rfl,d,e.bv⟩
def jG.get(h:jG w aQ T S)(e:k<T.length):∃(A:Option Addr) (c:Nat) (s:cq),T[k]? =some ⟨A,s.O.length,c,s.Y,s.da⟩/\S[k]? =some s/\ue w aQ A c s.O:=by
 obtain⟨A,c,s,a,b,g⟩:=h.Y.d9 e;obtain⟨j,d,i,f⟩:=h.2 k _ a;rw[b]at d;obtain rfl:=bae d;exact⟨A,c,s,a,b,f⟩
def jG.set(h:jG w aQ T S){c:Nat}(d:k<T.length)(o:ue w aQ A c s.O):jG w aQ (T.set k ⟨A,s.O.length,c,s.Y,s.da⟩) (S.set k s):=by
 have j:k<S.length:=by rw[<-h.len];exact d
 refine⟨by rw[bbA,bbA,h.1],λ i v a=>?_⟩;by_cases b:k=i
 .subst b;rw[baw d]at a;obtain rfl:=bae a;exact⟨s,baw j,Z,o⟩
 .rw[baH b]at a;obtain⟨l,e,f,g⟩:=h.2 i v a;exact⟨l,by rw[baH b];exact e,f,g⟩
end
def sy(s:cq):cq:=if 0<s.O.length then⟨s.O,0,s.da⟩else if s.da=false then⟨s.O,min (s.Y+1) 1000000,s.da⟩else s
def ER(S:List cq)(k:Nat):List cq:=(S.take k).map sy++S.drop k
def aJ0(S:List cq):ER S S.length=S.map sy:=by unfold ER;rw[ba7,List.drop_length,baP]
def Wf{S:List cq}{k:Nat}:(ER S k)[k]? =S[k]? :=by
 unfold ER;rcases ba2 k S.length with h|h
 .rw[baD (by rw[bbd,baf];omega),bbd,baf,bch GE,bbm];simp
 .rw[baX (by simp;omega),baX h]
def aeg{S:List cq}{k:Nat}(h:S[k]? =some s):ER S (k+1)=(ER S k).set k (sy s):=by
 obtain⟨a,rfl⟩:=bab.1 h;unfold ER;have e:((S.take k).map sy).length=k:=by rw[bbd,baf];omega
 rw[baI a,baJ,baO,bdc _ _ GE,e,bdr,bcg a];rfl
def aOP{S:List cq}{k:Nat}(h:vH S)(b:S[k]? =some s):0<=s.Y/\s.Y<=1000000:=by
 have a:=(h.2.2 k s b).2;unfold cq.H at a;simp only[bai,ba3,baN,baT]at a;omega
def zk(m:Nat)(x:List cq×List aS)(i:Nat):List cq×List aS:=match x.1[i]? with
 | some s=>if 0<s.O.length/\x.2.length<m then(x.1.set i ⟨s.O.drop 1,s.Y,s.da⟩,x.2++ [s.O.getD 0 default])else x
 | none=>x
def Kp(m:Nat)(x:List cq×List aS):List cq×List aS:=(List.range x.1.length).foldl (zk m) x
def Cg(m:Nat):Nat->List cq×List aS->List cq×List aS
 | 0,x=>x
 | f+1,x=>if(Kp m x).2.length=x.2.length then Kp m x else Cg m f (Kp m x)
def s6(m:Nat)(S:List cq):List cq×List aS:=Cg m (m+1) (S.map sy,[])
def as6{i:Nat}{S:List cq}{a:List aS}(b:S[i]? =some s)(h:¬(0<s.O.length/\a.length<m)):zk m (S,a) i=(S,a):=by
 unfold zk;rw[show(S,a).1[i]? =some s from b];exact ban h
def as7{i:Nat}{S:List cq}{a:List aS}(b:S[i]? =some s)(h:0<s.O.length/\a.length<m):zk m (S,a) i=(S.set i ⟨s.O.drop 1,s.Y,s.da⟩,a++ [s.O.getD 0 default]):=by
 unfold zk;rw[show(S,a).1[i]? =some s from b];exact bap h
def alA(m i:Nat)(x:List cq×List aS):(List.range (i+1)).foldl (zk m) x=zk m ((List.range i).foldl (zk m) x) i:=by rw[bbS,bbZ];rfl
def aAF{x y:List cq×List aS}(a:Kp m x=y)(h:y.2.length=x.2.length)(b:0<f):Cg m f x=y:=by
 obtain⟨f,rfl⟩:∃ k,f=k+1:=⟨f-1,GE⟩;rw[Cg,a,bap h]
def aAG{x y:List cq×List aS}(a:Kp m x=y)(h:¬y.2.length=x.2.length)(b:0<f):Cg m f x=Cg m (f-1) y:=by
 obtain⟨f,rfl⟩:∃ k,f=k+1:=⟨f-1,GE⟩;rw[Cg,a,ban h];rfl
def ajj(S:List cq)(m:Int):Prop:=vH S/\1<=m/\m<=100
def avE(S:List cq)(m:Int)(e:Int)(b:List cq)(a:List aS):Prop:=(e=0/\ajj S m/\(b,a)=s6 m.toNat S)\/(e≠0/\¬ajj S m/\b=[]/\a=[])
def Ol(m:Nat)(C x:List cq×List aS)(a:Bool):Prop:=(a=true/\∃ f,m<f+x.2.length/\Cg m f x=C)\/(a=false/\x=C)
def Ol.next{C x y:List cq×List aS}(h:Ol m C x true)(b:Kp m x=y)(g:x.2.length<=m)(e:x.2.length<=y.2.length):Ol m C y (decide (y.2.length≠x.2.length)):=by
 rcases h with⟨_,f,d,c⟩|⟨h,_⟩
 .by_cases a:y.2.length=x.2.length
  .refine .inr ⟨by simp[a],?_⟩;rw[<-c,aAF b a GE]
  .refine .inl ⟨by simp[a],f-1,GE,?_⟩;rw[<-c,aAG b a GE]
 .cases h
def aON{l:List α}{k:Nat}{a:α}(h:l[k]? =some a):l.set k a=l:=by
 obtain⟨b,rfl⟩:=bab.1 h;exact bbV b
def asq{T:List bU}{k:Nat}{A:Option Addr}{n c d b:Nat}{l:Int}(a:T[k]? =some ⟨A,n,c,l,g⟩)(h:q∈hM (T.set k ⟨fX A c 1 6,d,b,l,g⟩)):q∈hM T:=(RK h).elim Xx λ h=>wH a (afx h)
def aAE{a b:Nat}(h:g=decide (b≠a))(c:a<=b)(d:b<=m):m+1-b+g.toNat<m+1-a+true.toNat:=by
 subst h;by_cases e:b=a
 .subst e;simp
 .simp[e];omega
theorem aOK(A:Option Addr)(c:Nat)(T:List bU)(S:List cq)(m:Int)(w:World)(cc:bU.ce.aF 40 w A c T)(hS:n9 w T S):
  Calls prog 36 #[.slice A T.length c,J m] w (λ e w'=>∃(e':Int) (b':Option Addr) (cn:Nat) (lT:List bU) (pX:List cq) (lQ:Option Addr) (co:Nat) (p:List aS),e=.returned (.tuple #[.slice b' lT.length cn,.slice lQ p.length co,J e'])/\avE S m e' pX p/\bU.ce.aM 78 40 w' w.heap.size (τ.ai b') b' cn lT/\jG w' w.heap.size lT pX/\aS.ce.aM 43 48 w' w.heap.size (τ.ai lQ) lQ co p/\(∀ q∈τ.ai b',q∉hM lT)/\(∀ q∈τ.ai lQ,q∉τ.ai b'/\q∉hM lT)/\Ext w w'):=by
 have Hc:=cc.M;have VE:=cc.2.2.1;refine bT (n:=102) func36 Z Z Z ?_;refine ar<|va Z<|va Z<|aG Z<|av<|aC Z<|ca Uw Z Z ((Xw _ _ T S _ (cc.be (Ext.U w)) (hS.be (Ext.U w))).mono ?_);rintro e kr ⟨Ir,rfl,wg,aV⟩;refine cR ?_;have:=aV.size;refine aG Z<|aC Z<|cV Z Z<|ax<|?_;refine fr Z (λ kh=>?_) (λ kh=>?_)
 .refine aC Z<|va Z<|va Z<|bc Z<|bR<|cJ (.tmp Z (.tmp Z (.tmp Z .nil)))<|?_;exact⟨Ir,none,0,[],[],none,0,[],Z,.inr ⟨(by simpa using kh),(λ G=>(show ¬Ir=0 by simpa using kh) (wg.2 G.1)),Z,Z⟩,τ.aM.nil _,jG.nil _ _,τ.aM.nil _,λ q I=>by simp[τ.ai]at I,λ q I=>by simp[τ.ai]at I,aV⟩
 .have Jg:=wg.1 (by simpa using kh);refine bf<|av<|aC Z<|cF Z Z<|vm Z<|er Z Z<|aR Z (λ hc=>gy (gt hc Z) Z)<|κ (dS Z Z Z Z)<|ax<|?_;refine dB Z (λ kS=>?_) (λ kS=>?_)
  .simp only[cb]at kS;refine ar<|va Z<|va Z<|bc Z<|bR<|cJ (.tmp Z (.tmp Z (.tmp Z .nil)))<|?_;exact⟨1,none,0,[],[],none,0,[],Z,.inr ⟨GP,(λ G=>by have:=G.2;omega),Z,Z⟩,τ.aM.nil _,jG.nil _ _,τ.aM.nil _,λ q I=>by simp[τ.ai]at I,λ q I=>by simp[τ.ai]at I,aV⟩
  .simp only[cb]at kS;have MK:1<=m/\m<=100:=GE
   refine bf<|aC Z<|ca abh Z Z ((afI _ _ T S _ (cc.be aV) (hS.be aV)).mono ?_);rintro e R4 ⟨r,Y,K,rfl,aQ,ak,aJ,aN⟩;refine cR ?_;have wT:=Φ aV aN;refine aG Z<|av<|aC Z<|κ (bY underlying33 Z)<|vm Z<|ax<|bp<|?_;have VH:K.length=S.length:=ak.Y.len;have JB:=hS.len;have aP:jG R4 kr.heap.size K (ER S 0):=ak.NF;refine di (λ bJ bH t=>∃ k:Nat,∃ L:List bU,bH=[(0,.slice r K.length Y),(1,J m),(4,.slice none 0 0),(5,.slice none 0 0),(6,J 0),(28,J (K.length:Int)),(29,J (k:Int))]/\bJ=S.length-k/\Ext w t/\bU.ce.aM 78 40 t kr.heap.size (τ.ai r) r Y L/\jG t kr.heap.size L (ER S k)/\(k<=S.length)/\(L.length=S.length)/\(∀ q∈hM L,q∈τ.ai r->False)) _ _ ⟨0,K,Z,Z,wT,aQ,aP,GE,VH,λ q b g=>aJ q g b⟩ (c' Z Z Z) ?_;rintro aZ aU Bm ⟨k,L,rfl,rfl,jV,D,B,au,uI,N⟩;refine ar<|cF Z Z<|ax<|av<|?_;refine c7 Z (λ lD=>?_) (λ lD=>?_)
   .obtain⟨f,d,a,o,z,aX⟩:=B.get (k:=k) GE;rw[Wf]at z;have uJ:=aOP Jg z;refine bf<|av<|bp<|aC Z<|aG Z<|aC Z<|vm Z<|κ (bD k underlying33 ih Z Z (D.bv.Y (aL k)) Z GE)<|aG Z<|bp<|aC Z<|κ (cB Z)<|κ (aj p3 Z)<|?_;refine κ (v:=.slice f a.O.length d) (aq Z (τ.aF.C mG (D.bv.O (aL k)) 0 o Z nb))<|κ (bY underlying76 Z)<|κ (gy Z Z)<|aG Z<|?_;refine c7 Z (λ qM=>?_) (λ qM=>?_)
    .refine rg<|vm Z<|κ (cB Z)<|κ (aj Cp Z)<|so (q':=(⟨(⟨f,a.O.length,d,a.Y,a.da⟩:bU).a,(⟨f,a.O.length,d,a.Y,a.da⟩:bU).n,(⟨f,a.O.length,d,a.Y,a.da⟩:bU).c,0,(⟨f,a.O.length,d,a.Y,a.da⟩:bU).da⟩:bU)) (j:=1) (i:=k) D τ.O o Z Z Z Z (λ _ cs h=>by have mK:=(show _/\_ from h).2;obtain rfl:=mG h;exact⟨rfl,ea⟩) Z Z cO λ wL xJ LC=>?_;have jW:=Ext.H jV xJ (λ q I=>bay GE (D.lt q I).1);refine nl<|bK<|bK<|cW Z Z Z<|?_;have B:=B.H xJ N;obtain⟨_,P3,_,Zs⟩:=B.2 k _ o;obtain rfl:=bae ((Wf.trans z).symm.trans P3);have ab:sy a=⟨a.O,0,a.da⟩:=by unfold sy;rw[bap GE]
     exact cM ⟨k+1,(L).set k ((⟨(⟨f,a.O.length,d,a.Y,a.da⟩:bU).a,(⟨f,a.O.length,d,a.Y,a.da⟩:bU).n,(⟨f,a.O.length,d,a.Y,a.da⟩:bU).c,0,(⟨f,a.O.length,d,a.Y,a.da⟩:bU).da⟩:bU)),Z,Z,jW,LC,(by rw[aeg z,ab];exact jG.set (s:=⟨a.O,0,a.da⟩) B GE Zs),GE,by rw[bak];exact uI,λ q b g=>(RK b).elim (λ b=>N q (Xx b) g) (λ b=>N q (wH o b) g)⟩
    .refine aC Z<|κ (cB Z)<|κ (aj Cq Z)<|κ (v:=.bool a.da) (aq Z (τ.aF.C mG (D.bv.O (aL k)) 2 o Z At))<|κ (dj Z)<|aG Z<|?_;refine dB Z (λ v_=>?_) (λ v_=>?_)
     .simp only[ba3,bbK]at v_;refine rg<|vm Z<|vm Z<|κ (cB Z)<|κ (aj Cp Z)<|κ (v:=J a.Y) (aq Z (τ.aF.C mG (D.bv.O (aL k)) 1 o Z aH))<|fb Z Z<|κ (qh Z Z)<|κ (cB Z)<|κ (aj Cp Z)<|so (q':=(⟨(⟨f,a.O.length,d,a.Y,a.da⟩:bU).a,(⟨f,a.O.length,d,a.Y,a.da⟩:bU).n,(⟨f,a.O.length,d,a.Y,a.da⟩:bU).c,min (a.Y+1) 1000000,(⟨f,a.O.length,d,a.Y,a.da⟩:bU).da⟩:bU)) (j:=1) (i:=k) D τ.O o Z Z Z Z (λ _ cs h=>by have mK:=(show _/\_ from h).2;obtain rfl:=mG h;exact⟨rfl,ea⟩) Z Z cO λ C8 iM yv=>?_;have q3:=Ext.H jV iM (λ q I=>bay GE (D.lt q I).1);refine nl<|bK<|bK<|cW Z Z Z<|?_;have B:=B.H iM N;obtain⟨_,P3,_,Zs⟩:=B.2 k _ o;obtain rfl:=bae ((Wf.trans z).symm.trans P3);have ab:sy a=⟨a.O,min (a.Y+1) 1000000,a.da⟩:=by unfold sy;rw[ban GE,bap v_]
      exact cM ⟨k+1,(L).set k ((⟨(⟨f,a.O.length,d,a.Y,a.da⟩:bU).a,(⟨f,a.O.length,d,a.Y,a.da⟩:bU).n,(⟨f,a.O.length,d,a.Y,a.da⟩:bU).c,min (a.Y+1) 1000000,(⟨f,a.O.length,d,a.Y,a.da⟩:bU).da⟩:bU)),Z,Z,q3,yv,(by rw[aeg z,ab];exact jG.set (s:=⟨a.O,min (a.Y+1) 1000000,a.da⟩) B GE Zs),GE,by rw[bak];exact uI,λ q b g=>(RK b).elim (λ b=>N q (Xx b) g) (λ b=>N q (wH o b) g)⟩
     .simp only[ba3,bbK]at v_;refine dP<|bK<|bK<|cW Z Z Z<|?_;exact cM ⟨k+1,L,Z,Z,jV,D,(by rw[aeg z,show sy a=a from by unfold sy;rw[ban GE,ban (by rw[v_];decide)],aON (by rw[Wf];exact z)];exact B),GE,uI,N⟩
   .have nP:k=S.length:=GE
    subst nP;rw[aJ0]at B;refine cI<|cH<|cU<|cG<|a7<|ar<|aG Z<|av<|ar<|aG Z<|bp<|?_;refine di (λ bJ bH t=>∃ P:List bU,∃ O:List cq,∃ U:Option Addr,∃ jH:Nat,∃ p:List aS,∃ Gk:Bool,bH=[(0,.slice r K.length Y),(1,J m),(4,.slice none 0 0),(5,.slice none 0 0),(6,J 0),(10,.slice U p.length jH),(11,.bool Gk)]/\bJ=m.toNat+1-p.length+Gk.toNat/\Ext w t/\bU.ce.aM 78 40 t kr.heap.size (τ.ai r) r Y P/\aS.ce.aM 43 48 t w.heap.size (τ.ai U) U jH p/\jG t kr.heap.size P O/\(Ol m.toNat (s6 m.toNat S) (O,p) Gk)/\(P.length=S.length)/\(p.length<=m.toNat)/\(∀ q∈hM P,q∈τ.ai r->False)/\(∀ q∈hM P,q∈τ.ai U->False)/\(O.length=S.length)/\(∀ q∈τ.ai U,q∈τ.ai r->False)) _ _ ⟨L,(S.map sy),none,0,[],true,Z,Z,jV,D,(τ.aM.nil _),B,.inl ⟨Z,_,Kx,rfl⟩,uI,Kx,N,λ q b g=>by simp[τ.ai]at g,Kx,(λ q I ae=>by (simp[τ.ai]at I))⟩ (qW Z) ?_;rintro qc aW xX ⟨P,O,U,jH,p,Gk,rfl,rfl,lu,ai,am,al,fD,aA,ay,aE,VQ,az,aw⟩;refine av<|aC Z<|ax<|?_;refine dB Z (λ pq=>?_) (λ pq=>?_)
    .rw[pq]at fD;refine bf<|bp<|ar<|aG Z<|aC Z<|κ (bY underlying33 Z)<|vm Z<|ax<|bp<|?_;refine di (λ bJ bH t=>∃ i:Nat,∃ E:List bU,∃ W:List cq,∃ F:Option Addr,∃ ci:Nat,∃ y:List aS,∃ Cr:Bool,bH=[(0,.slice r K.length Y),(1,J m),(4,.slice none 0 0),(5,.slice none 0 0),(6,J 0),(10,.slice F y.length ci),(11,.bool Cr),(61,.bool Gk),(62,.slice r K.length Y),(63,J (K.length:Int)),(64,J (i:Int))]/\bJ=S.length-i/\Ext w t/\bU.ce.aM 78 40 t kr.heap.size (τ.ai r) r Y E/\aS.ce.aM 43 48 t w.heap.size (τ.ai F) F ci y/\jG t kr.heap.size E W/\(i<=S.length)/\(E.length=S.length)/\(y.length<=m.toNat)/\(∀ q∈hM E,q∈τ.ai r->False)/\(∀ q∈hM E,q∈τ.ai F->False)/\(W.length=S.length)/\((W,y)=(List.range i).foldl (zk m.toNat) (O,p))/\(Cr=decide (y.length≠p.length))/\(p.length<=y.length)/\(∀ q∈τ.ai F,q∈τ.ai r->False)) _ _ ⟨0,P,O,U,jH,p,false,Z,Z,lu,ai,am,al,GE,aA,ay,aE,VQ,az,rfl,Kx,bao _,aw⟩ (c' Z Z Z) ?_;rintro qd a0 Bp ⟨i,E,W,F,ci,y,Cr,rfl,rfl,n7,C,Lr,M,ao,ah,ad,Qm,QH,ag,hF,aa,af,V⟩;have:=n7.size;have aD:=b4 C.lt;have aM:∀ q∈hM E,q<Bp.heap.size:=λ q I=>(M.lt q I).2;refine ar<|cF Z Z<|ax<|av<|?_;refine c7 Z (λ Jj=>?_) (λ Jj=>?_)
     .obtain⟨f,d,a,o,z,X⟩:=M.get (k:=i) GE;refine bf<|av<|bp<|aC Z<|aG Z<|aC Z<|vm Z<|κ (bD i underlying33 ih Z Z (C.bv.Y (aL i)) Z GE)<|aG Z<|aC Z<|κ (cB Z)<|κ (aj p3 Z)<|κ (v:=.slice f a.O.length d) (aq Z (τ.aF.C mG (C.bv.O (aL i)) 0 o Z nb))<|?_;refine κ (bY underlying76 Z)<|κ (gy Z Z)<|vm Z<|er Z Z<|aR Z (λ hc=>bY underlying76 (gt hc Z))<|er Z Z<|aR Z (λ hc=>blt (gt hc Z) (gt hc Z))<|κ (cQ Z Z Z Z)<|ax<|?_;refine dB Z (λ CB=>?_) (λ CB=>?_)
      .simp only[cb]at CB;have rq:0<a.O.length/\y.length<m.toNat:=GE
       obtain⟨_,P3,_,X⟩:=M.2 i _ o;obtain rfl:=bae (z.symm.trans P3);have Up:∀ q∈τ.ai f,q∈τ.ai r->False:=λ q b g=>Qm q (wH o b) g;have an:∀ q∈τ.ai f,q∈τ.ai F->False:=λ q b g=>QH q (wH o b) g;have aK:(a.O.getD 0 default).ok:=aS.C X.bv _ (gZ rq.1);refine RB (τ.ai F) [(5,0),(7,0),(8,2),(9,2),(13,0),(18,3)] [0,1,2,3,4,5,6,7,10,11,12,13,14,8,9,15,16,17,18,19] GT GT ?_;refine kR Z Z (λ _=>fW Z) Z<|kR Z Z (λ _=>fW Z) Z<|kR Z Z (λ _=>fW Z) Z<|kR Z Z (λ _=>cB Z) Z<|kR Z Z (λ _=>aj p3 Z) Z<|yQ (v:=.slice f a.O.length d) Z Z (λ _ x=>aq Z (τ.aF.C mG ((C.H x (fa V)).bv.O (aL i)) 0 o Z nb)) Z<|kR Z Z (λ _=>bD 0 underlying76 eu Z Z (X.bv.Y (aL 0)) Z GE) Z<|yQ Z Z (λ _ x=>aq Z (τ.aF.G yX ((X.H x an).bv.O (aL 0)) (cg (l:=a.O) (u:=default) (j:=0) GE) iw eu)) Z<|kR Z Z (λ _=>fW Z) Z<|kR Z Z (λ _=>cB Z) Z<|kR Z Z (λ _=>aj p3 Z) Z<|yQ (v:=.slice f a.O.length d) Z Z (λ _ x=>aq Z (τ.aF.C mG ((C.H x (fa V)).bv.O (aL i)) 0 o Z nb)) Z<|kR Z Z (λ _=>asn 1 underlying76 eu Z Z Z GE) Z<|GV Z Z Z λ KI iu Q hK=>cT (e:=43) (cs:=[J ((a.O.getD 0 default).by_),J ((a.O.getD 0 default).O),J ((a.O.getD 0 default).H),J ((a.O.getD 0 default).an.x),J ((a.O.getD 0 default).an.y),J ((a.O.getD 0 default).Y)]) Z (λ _=>GT) Z λ xZ vL jz Q_ pW=>hK _ _ ⟨Mod.O (Φ iu jz),?_⟩;have:=iu.size;have pR:=Φ n7 iu;have jX:=Φ pR jz;have Xi:=pW.lt;have Lr:=Lr.O (Φ iu jz);refine GV Z Z Z λ R7 H Q hK=>ap ax0 τ.O (Lr.O H) ((aO.G (R:=aS.ce) (by_:=48) (q:=a.O.getD 0 default) pW ⟨Z,aK⟩ GP).be H) Z Z (by simp only[baj,baq];omega) (by simp only[baj,baq];omega) (by have:=H.size;omega) Z λ KJ SG Gx qe OW Jd aT=>hK _ _ ⟨(Mod.O H).trans qe,?_⟩;have:=H.size;have Bz:=Φ jX H;have vv:=Ext.H Bz qe (λ q I=>bay GE ((Lr.O H).lt q I).1);refine kR Z Z (λ _=>fh Z) Z<|kR Z Z (λ _=>cB Z) Z<|kR Z Z (λ _=>aj p3 Z) Z<|?_;have C:=(C.O (Φ iu (Φ jz H))).H qe (fa V);refine UN Z Z Z λ R8 kL Q hK=>so (q':=(⟨fX f d 1 6,a.O.length-1,d-1,(⟨f,a.O.length,d,a.Y,a.da⟩:bU).Y,(⟨f,a.O.length,d,a.Y,a.da⟩:bU).da⟩:bU)) (j:=0) (i:=i) (C.O kL) τ.O o Z Z Z Z (λ _ cs h=>by have mK:=(show _/\_ from h).2;obtain rfl:=mG h;exact⟨rfl,mK⟩) Z Z Ao λ NT sH ZK=>hK _ _ ?_;have yk:=Φ vv kL;have qy:=Ext.H yk sH (λ q I=>bay GE ((C.O kL).lt q I).1);refine kR Z Z (λ _=>fh Z) Z<|PF λ aY o0=>?_;have ym:=Φ qy o0;refine bK<|cW Z Z Z<|?_;have ZK:=ZK.O o0;have OW:=((OW.O kL).H sH (oq Jd V aD)).O o0;have M:=((((M.O (Φ iu (Φ jz H))).H qe QH).O kL).H sH Qm).O o0;have X:=((((X.O (Φ iu (Φ jz H))).H qe an).O kL).H sH Up).O o0;have aI:=X.cut rq.1;have sr:(a.O.drop 1).length=a.O.length-1:=bax;exact cM ⟨i+1,(E).set i ((⟨fX f d 1 6,a.O.length-1,d-1,(⟨f,a.O.length,d,a.Y,a.da⟩:bU).Y,(⟨f,a.O.length,d,a.Y,a.da⟩:bU).da⟩:bU)),W.set i ⟨a.O.drop 1,a.Y,a.da⟩,SG,Gx,y++ [a.O.getD 0 default],true,Z,Z,ym,ZK,OW,(by have G:=jG.set (s:=⟨a.O.drop 1,a.Y,a.da⟩) (k:=i) M GE aI;rw[sr]at G;exact G),GE,by rw[bak];exact ah,by rw[bam,bbo];omega,λ q b g=>Qm q (asq o b) g,λ q b g=>(λ b=>by (exact baC (Jd q g) (λ aB=>by (exact QH q b aB)) (λ aB=>by (have:=aM q b;omega)))) (asq o b),by rw[bak];exact ag,by rw[alA,<-hF,as7 z rq],by rw[bam,bbo];exact(baG GE).symm,by rw[bam,bbo];omega,(oq Jd V aD)⟩
      .simp only[cb]at CB;have rq:¬(0<a.O.length/\y.length<m.toNat):=GE
       refine dP<|bK<|cW Z Z Z<|?_;exact cM ⟨i+1,E,W,F,ci,y,Cr,Z,Z,n7,C,Lr,M,GE,ah,ad,Qm,QH,ag,by rw[alA,<-hF,as6 z rq],aa,af,V⟩
     .have aF:i=S.length:=GE
      refine cI<|cH<|cU<|cG<|bK<|?_;exact oR _ _ ⟨E,W,F,ci,y,Cr,Z,Z,n7,C,Lr,M,by rw[aa];exact Ol.next fD (by unfold Kp;rw[show(O,p).1.length=S.length from az,<-aF];exact hF.symm) ay af,ah,ad,Qm,QH,ag,V⟩ (by rw[pq];exact aAE aa af ad) (qW Z)
    .refine cI<|cH<|cU<|cG<|a7<|aC Z<|vm Z<|va Z<|va Z<|bc Z<|cJ (.tmp Z (.tmp Z (.tmp Z .nil)))<|?_;exact⟨0,_,_,P,O,U,jH,p,by rw[aA,VH];rfl,.inl ⟨rfl,⟨Jg,MK⟩,(by rcases fD with⟨G,_⟩|⟨_,G⟩;exact absurd G (by simp[pq]);exact G)⟩,ai.dq GE,al.dq GE,am,λ q b g=>aE q g b,λ q b=>⟨λ g=>by exfalso;(exact aw q b g),λ g=>VQ q g b⟩,lu⟩
end
end Go.Proofs.YtooonebcoaleiaaGreat
namespace Go.Proofs.YtooonebcoaleiaaGreat.b9
open Tryz

def ayB(a b:Nat):(a &&& b) % 2=a % 2 &&& b % 2:=by
 have:=@Nat.and_mod_two_pow a b 1;simpa using this
def aBj{a b c:Nat}(h:a &&& b=c):a / 2 &&& b / 2=c / 2:=by rw[<-h,Nat.and_div_two]
def lV:Nat->Nat->Nat
 | 0,_=>0
 | f+1,x=>x % 2+lV f (x / 2)
def Uf(f g x:Nat):lV (f+g) x=lV f x+lV g (x / 2 ^ f):=by
 induction f generalizing x with
 | zero=>simp[lV]
 | succ f a =>
  rw[Nat.succ_add,lV,lV,a,bdS,bdR,bby 2];omega
def aaH(f x:Nat):lV f (x % 2 ^ f)=lV f x:=by
 induction f generalizing x with
 | zero=>rfl
 | succ f c =>
  rw[lV,lV,bdR];have a:x % (2 ^ f*2) % 2=x % 2:=Nat.mod_mod_of_dvd _ ⟨2 ^ f,bby _ _⟩;have b:x % (2 ^ f*2) / 2=x / 2 % 2 ^ f:=by rw[bby,Nat.mod_mul_right_div_self]
  rw[a,b,c]
def GB(f x:Nat):lV f x<=f:=by
 induction f generalizing x with
 | zero=>exact bao _
 | succ f a=>have:=a (x / 2);rw[lV];omega
def size(x:Nat):Nat:=lV 32 x
def size_bytes(x:Nat)(h:x<4294967296):size x=lV 8 (x / 16777216)+lV 8 (x / 65536 % 256)+lV 8 (x / 256 % 256)+lV 8 (x % 256):=by
 unfold size;rw[show(32:Nat)=8+(8+(8+8))from rfl,Uf,Uf,Uf,bdS,bdS];rw[show(256:Nat)=2 ^ 8 from rfl,aaH,aaH,aaH];simp only[Nat.reducePow,Nat.reduceMul];omega
def aAI(f a m:Nat)(h:a &&& m=a):lV f a<=lV f m:=by
 induction f generalizing a m with
 | zero=>exact bao _
 | succ f g =>
  have e:a / 2 &&& m / 2=a / 2:=aBj h;have b:a % 2 &&& m % 2=a % 2:=by rw[<-ayB,h]
  have:=g _ _ e;rw[lV,lV];rcases bbO a with c|c<;>rcases bbO m with d|d
  all_goals rw[c,d]at b ⊢
  all_goals first|omega|(simp at b)
def W_(n:Nat)(h:n<256):Lib.pop8 (n:Int)=(lV 8 n:Int):=by
 have e:=Lib.pop8_eq ⟨n,h⟩;have a:∀ m:Fin 256,Lib.onesCount m.val=lV 8 m.val:=by decide +kernel
 rw[a ⟨n,h⟩]at e;exact e
end Go.Proofs.YtooonebcoaleiaaGreat.b9
namespace Go.Proofs.YtooonebcoaleiaaGreat.b9
open Tryz
open Go.RowKit Go.Proofs.YtooonebcoaleiaaGreat Go.Proofs.YtooonebcoaleiaaGreat.fg

def aNU{a b:Int}(h:a=b):Ending.returned (.int .i64 a)=.returned (.int .i64 b):=by rw[h]
def Z0(a:Nat)(h:a<4294967296):bits .and .u32 (a:Int) 255=((a % 256:Nat):Int):=by
 have b:=(beI .u32 32 GP (λn c b=>by simp[IntKind.wrap,IntKind.signed,IntKind.bits];omega) a 255 GE GE).1;have e:a &&& 255=a % 256:=Nat.and_two_pow_sub_one_eq_mod a 8;rw[e]at b;exact b
@[go_sem high] theorem aWy:(⟨((([0,1,1,2,1,2,2,3,1,2,2,3,2,3,3,4,1,2,2,3,2,3,3,4,2,3,3,4,3,4,4,5,1,2,2,3,2,3,3,4,2,3,3,4,3,4,4,5,2,3,3,4,3,4,4,5,3,4,4,5,4,5,5,6]:List UInt8).append [1,2,2,3,2,3,3,4,2,3,3,4,3,4,4,5,2,3,3,4,3,4,4,5,3,4,4,5,4,5,5,6,2,3,3,4,3,4,4,5,3,4,4,5,4,5,5,6,3,4,4,5,4,5,5,6,4,5,5,6,5,6,6,7]).append (([1,2,2,3,2,3,3,4,2,3,3,4,3,4,4,5,2,3,3,4,3,4,4,5,3,4,4,5,4,5,5,6,2,3,3,4,3,4,4,5,3,4,4,5,4,5,5,6,3,4,4,5,4,5,5,6,4,5,5,6,5,6,6,7]:List UInt8).append [2,3,3,4,3,4,4,5,3,4,4,5,4,5,5,6,3,4,4,5,4,5,5,6,4,5,5,6,5,6,6,7,3,4,4,5,4,5,5,6,4,5,5,6,5,6,6,7,4,5,5,6,5,6,6,7,5,6,6,7,6,7,7,8])).toArray⟩:ByteArray)=Lib.pop8tab:=by decide +kernel
theorem aAL(n:Nat)(hn:n<4294967296)(w:World):
  Calls prog 119 #[.int .u32 (n:Int)] w λe w'=>e=.returned (.int .i64 (size n:Int))/\∃ q,w'=w.drewN q:=by
 have d1:(n:Int) / 16777216=((n / 16777216:Nat):Int):=GE
 have d2:(n:Int) / 65536=((n / 65536:Nat):Int):=GE
 have d3:(n:Int) / 256=((n / 256:Nat):Int):=GE
 have a2:=Z0 (n / 65536) GE;have a3:=Z0 (n / 256) GE;have a4:=Z0 n hn;have mi:=W_ (n / 16777216) GE;have nu:=W_ (n / 65536 % 256) GE;have mj:=W_ (n / 256 % 256) GE;have uX:=W_ (n % 256) GE;have i1:(0:Int)<=((n / 16777216:Nat):Int)/\((n / 16777216:Nat):Int)<=255:=GE
 have i2:(0:Int)<=((n / 65536 % 256:Nat):Int)/\((n / 65536 % 256:Nat):Int)<=255:=GE
 have i3:(0:Int)<=((n / 256 % 256:Nat):Int)/\((n / 256 % 256:Nat):Int)<=255:=GE
 have i4:(0:Int)<=((n % 256:Nat):Int)/\((n % 256:Nat):Int)<=255:=GE
 have c1:=GB 8 (n / 16777216);have c2:=GB 8 (n / 65536 % 256);have c3:=GB 8 (n / 256 % 256);have c4:=GB 8 (n % 256);rw[size_bytes n hn];generalize n / 16777216=hh at *
 generalize n / 65536=lH at *
 generalize n / 256=Ba at *
 generalize lH % 256=eZ at *
 generalize Ba % 256=ig at *
 generalize eJ:n % 256=yA at *
 obtain⟨i10,i11⟩:=i1;obtain⟨i20,i21⟩:=i2;obtain⟨i30,i31⟩:=i3;obtain⟨i40,i41⟩:=i4;go_enter func119,ntmps119;go_wp2_with fail
 go_quiet (fail)
 go_wp2_with fail
 go_ret;exact⟨aNU (by push_cast;rfl),nq,Z⟩

def aAM(n:Nat)(hn:n<4294967296)(w:World):
  Calls prog 85 #[.int .u32 (n:Int)] w λe w'=>e=.returned (.int .i64 (size n:Int))/\∃ q,w'=w.drewN q:=by
 go_enter func85,ntmps85;go_wp2_with fail
 refine(aAL n hn _).mono ?_;rintro e w' ⟨rfl,q,rfl⟩;go_wp2_with fail
 go_ret;exact⟨Z,q,Z⟩
def wC(t:Int):List Nat->Nat->Int
 | [],_=> -1
 | x::xs,i=>if t<=(size x:Int)then(i:Int)else wC t xs (i+1)
def Sets(w:World)(b o:Nat)(l:List Nat):Prop:=∀ k,(h:k<l.length)->w.cell? ⟨b,o+k,none⟩=some (.int .u32 ((l[k]:Nat):Int))/\l[k]<4294967296
def Sets.O{w w':World}{b o:Nat}{l:List Nat}(h:Sets w b o l)(c:Below w.heap.size w w'):Sets w' b o l :=
 λk a=>⟨cell_later c (h k a).1,(h k a).2⟩
end Go.Proofs.YtooonebcoaleiaaGreat.b9
namespace Go.Proofs.YtooonebcoaleiaaGreat.b9
open Tryz
open Go.RowKit Go.Proofs.YtooonebcoaleiaaGreat.fg
def diff(a b:Nat):Nat:=(BitVec.ofNat 32 a &&& ~~~BitVec.ofNat 32 b).toNat
def I4(a b:Nat):diff a b<4294967296:=(BitVec.ofNat 32 a &&& ~~~BitVec.ofNat 32 b).isLt
def Ps(a b i:Nat)(d:a<4294967296)(c:i<32):(diff a b).testBit i=(a.testBit i && !b.testBit i):=by
 unfold diff;rw[BitVec.testBit_toNat,BitVec.getLsbD_and,BitVec.getLsbD_not,bfr,bfr];simp[c]
def aj8(a b i:Nat)(c:¬i<32):(diff a b).testBit i=false:=bcv (bba (I4 a b) (bck (n:=2) GP (by omega:32<=i)))
def aqY(a:Nat):BitVec.ofInt 32 (a:Int)=BitVec.ofNat 32 a:=aLU a
def aBg(a b:Nat):bits .andNot .u32 (a:Int) (b:Int)=(diff a b:Int):=by
 have h:=UI (x:=bits .andNot .u32 (a:Int) (b:Int)) (b:=BitVec.ofNat 32 a &&& ~~~BitVec.ofNat 32 b) (T3 _ _ _) (T2 _ _ _) (by rw[aLR,aqY,aqY]);exact h
def Yg(n:Int)(a:0<=n)(b:n<2 ^ 32):IntKind.u32.wrap n=n:=by simp[IntKind.wrap,IntKind.signed,IntKind.bits];omega
def aL4(a b:Nat)(d:a<4294967296)(c:b<4294967296):bits .or .u32 (a:Int) (b:Int)=((a ||| b:Nat):Int):=(beI .u32 32 GP Yg a b d c).2
def ayC(a b:Nat)(d:a<4294967296)(c:b<4294967296):bits .and .u32 (a:Int) (b:Int)=((a &&& b:Nat):Int):=(beI .u32 32 GP Yg a b d c).1
def ay4(a k:Nat)(c:a<4294967296):bits .and .u32 ((a / 2 ^ k:Nat):Int) 1=if a.testBit k then 1 else 0:=by
 have b:a / 2 ^ k<4294967296:=bdv (beL _ _) c;have h:=ayC (a / 2 ^ k) 1 b GP;rw[bfB]at h;rw[show(1:Int)=((1:Nat):Int)from rfl,h,bc7];rcases bbO (a / 2 ^ k)with e|e<;>simp[e]
def aqn{a b:Nat}(d:a<4294967296)(c:b<4294967296):a ||| b<4294967296:=Nat.or_lt_two_pow (n:=32) d c
def Kd{k:Nat}(b:k<32):2 ^ k<4294967296:=Nat.pow_lt_pow_right (a:=2) GP b
def abE{a b:Nat}(h:∀ i,a.testBit i=b.testBit i):a=b:=Nat.eq_of_testBit_eq h
end Go.Proofs.YtooonebcoaleiaaGreat.b9
namespace Go.Proofs.YtooonebcoaleiaaGreat.b9
open Tryz
open Go.RowKit Go.Proofs.YtooonebcoaleiaaGreat Go.Proofs.YtooonebcoaleiaaGreat.fg
def E6(m x k:Nat):Bool:=diff x m == 0 && !x.testBit k && (x == 0 || m.testBit k)
def Kc(m:Nat):List Nat->Nat->Bool
 | [],_=>true
 | x::xs,k=>E6 m x k && Kc m xs (k+1)
def check(m:Nat)(l:List Nat):Int :=
 if m=0\/65536<=m then 1 else if Kc m l 0=false then 4 else if 0<=wC ((size m:Int) / 2+1) l 0 then 4 else 0
end Go.Proofs.YtooonebcoaleiaaGreat.b9
namespace Go.Proofs.YtooonebcoaleiaaGreat.b9
open Tryz
open Go.RowKit Go.Proofs.YtooonebcoaleiaaGreat Go.Proofs.YtooonebcoaleiaaGreat.fg

def E2(m:Nat)(k:Int):Bool:=decide (0<=k) && (decide (k<16) && m.testBit k.toNat)
def aNT{a b:Bool}(h:a=b):Ending.returned (.bool a)=.returned (.bool b):=by rw[h]
def A8(k x:Nat):Nat:=diff x (2 ^ k)
def aWb(l:List Nat):List Value:=l.map λx:Nat=>Value.int .u32 (x:Int)
def part(k:Nat)(l:List Nat)(i:Nat):List Nat:=(l.take i).map (A8 k)++l.drop i
def ae0(k:Nat)(l:List Nat)(i:Nat):(part k l i).length=l.length:=by unfold part;simp;omega
def aMn(k:Nat)(l:List Nat)(i:Nat)(h:i<l.length):(part k l i)[i]? =some l[i]:=by
 unfold part;have e:((l.take i).map (A8 k)).length=i:=by rw[bbd,baf];omega
 rw[baD (by rw[e];exact bao _),e,bdr,bbm,Nat.add_zero,bac h]
def ae1(k:Nat)(l:List Nat)(i:Nat)(h:i<l.length):(part k l i).set i (A8 k l[i])=part k l (i+1):=by
 unfold part;have e:((l.take i).map (A8 k)).length=i:=by rw[bbd,baf];omega
 rw[bdc _ _ (by rw[e];exact bao _),e,bdr,baI h,baJ,bcg h,bbJ,baO];rfl
def sz(l:List Nat)(k:Nat):List Nat:=part k (l.set k 0) 16

end Go.Proofs.YtooonebcoaleiaaGreat.b9
namespace Go.Proofs.YtooonebcoaleiaaGreat.b9
open Tryz
open Go.RowKit Go.Proofs.YtooonebcoaleiaaGreat Go.Proofs.YtooonebcoaleiaaGreat.fg

def iO(m:Nat)(l:List Nat):Int:=wC ((size m:Int) / 2+1) l 0
def u_:Nat->Nat->List Nat->Nat×List Nat
 | 0,m,l=>(m,l)
 | f+1,m,l=>if 0<=iO m l then u_ f (diff m (2 ^ (iO m l).toNat)) (sz l (iO m l).toNat)else(m,l)
def sI(l:List Nat):Nat:=(l.filter (· != 0)).length
def aqV(l:List Nat):sI l<=l.length:=bcf _ _
def arc(t:Int):∀(l:List Nat) (i:Nat),0<=wC t l i->∃ j,∃ h:j<l.length,wC t l i=((i+j:Nat):Int)/\t<=(size l[j]:Int)
 | [],i,h=>by simp[wC]at h
 | x::xs,i,h=>by
  unfold wC at h ⊢;by_cases a:t<=(size x:Int)
  .rw[bap a];exact⟨0,Kx,Kx,a⟩
  .rw[ban a]at h ⊢;obtain⟨j,b,c,d⟩:=arc t xs (i+1) h;exact⟨j+1,by simp;exact b,by rw[c];congr 1;omega,d⟩
def Yd{m:Nat}{l:List Nat}(h:0<=iO m l):∃ k:Nat,iO m l=(k:Int)/\∃ d:k<l.length,(size m:Int) / 2+1<=(size l[k]:Int):=by
 obtain⟨j,a,b,c⟩:=arc _ l 0 h;exact⟨j,by unfold iO;rw[b];simp,a,c⟩
def asM:size 0=0:=GP
def Wi(l:List Nat)(k:Nat)(h:l.length=16):(sz l k).length=16:=by unfold sz;rw[ae0,bak];exact h
def ap5(l:List Nat)(k:Nat)(h:l.length=16):sz l k=(l.set k 0).map (A8 k):=by
 unfold sz part;have a:(l.set k 0).length=16:=by rw[bak];exact h
 rw[baE GE,bfh GE,baP]
def W5(k:Nat):A8 k 0=0:=by
 unfold A8 diff;simp
def aqW(f:Nat->Nat)(b:f 0=0):∀ l:List Nat,sI (l.map f)<=sI l
 | []=>bao _
 | x::xs=>by
  have a:=aqW f b xs;unfold sI at *
  rw[ba5,bbN,bbN];by_cases c:x=0
  .subst c;rw[b];simpa using a
  .rw[bap (show(x != 0)=true by simp[c])];split
   .rw[baj,baj];exact Nat.succ_le_succ a
   .rw[baj];exact bfJ a
def aqX:∀(l:List Nat) (k:Nat) (a:k<l.length),l[k]≠0->sI (l.set k 0)+1=sI l
 | x::xs,0,_,h=>by
  unfold sI;simp at h;simp[h]
 | x::xs,k+1,a,h=>by
  have b:=aqX xs k (by simpa using a) (by simpa using h);unfold sI at *
  simp only[bbW,bbN];split
  .simp;omega
  .exact b
def aei{m:Nat}{l:List Nat}(c:l.length=16){k:Nat}(b:k<l.length)(h:(size m:Int) / 2+1<=(size l[k]:Int)):sI (sz l k)<sI l:=by
 have a:l[k]≠0:=by
  intro a;rw[a,asM]at h;omega
 have d:=aqX l k b a;rw[ap5 l k c];have e:=aqW (A8 k) (W5 k) (l.set k 0);omega
end Go.Proofs.YtooonebcoaleiaaGreat.b9
