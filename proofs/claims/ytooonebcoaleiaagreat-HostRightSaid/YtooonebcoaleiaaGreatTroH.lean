import Derived.Test.YtooonebcoaleiaaGreatDed
set_option linter.all false
set_option maxRecDepth 100000
set_option maxHeartbeats 4000000
open Go.RowKit
namespace Go.Proofs.YtooonebcoaleiaaGreat
open Tryz
abbrev bcJ:=@List.setIfInBounds_toArray
abbrev bdd:=@List.contains_iff_mem
abbrev bdm:=@List.find?_some
abbrev bdQ:=@bne_iff_ne
abbrev beJ:=@List.take_append_of_le_length
abbrev beP:=@Go.Proofs.Tryz.zeroValue3
abbrev beR:=@Go.wpQuiet_nil
abbrev bfH:=@Go.World.cell?_of_block
section
variable{k:Nat}{V:ag}{t u:bb}{d:dm}
def beside(a b:aw):Bool:=bA b.x (a.x-1) (a.x+1) && bA b.y (a.y-1) (a.y+1)
namespace ag
def H(W:ag)(c:aw):Nat:=(c.y*W.am.O+c.x).toNat
def k_(t:bb)(n:Int):bb:={t with load:=t.load+n}
def C(W:ag)(d:dm):Option ag :=
 match W.ah.findIdx? (je d.H)with
 | none=>none
 | some k =>
  let t:=W.ah.getD k default
  let m:=W.bE.getD (W.H d.an) 0
  if t.O == 1 && decide (t.load<5) && beside t.an d.an && W.am.dF d.an && m != 0 then
   some {W with bE:=W.bE.set (W.H d.an) (m-1),ah:=W.ah.set k (k_ t 1)}
  else none
def drop(W:ag)(d:dm):Option ag :=
 match W.ah.findIdx? (je d.H)with
 | none=>none
 | some k =>
  let t:=W.ah.getD k default
  let o:=t.H.toNat
  let s:=W.bl.getD o 0
  let n:=min t.load (1000000-s)
  if t.load != 0 && beside (W.aT.getD o default) t.an && decide (0<n)then
   some {W with bl:=W.bl.set o (s+n),ah:=W.ah.set k (k_ t (-n))}
  else none
def fm(c:aw):List aw :=
 [c,⟨c.x-1,c.y-1⟩,⟨c.x,c.y-1⟩,⟨c.x+1,c.y-1⟩,⟨c.x-1,c.y⟩,⟨c.x,c.y⟩,⟨c.x+1,c.y⟩,⟨c.x-1,c.y+1⟩,⟨c.x,c.y+1⟩,⟨c.x+1,c.y+1⟩]
def HH(W:ag)(c:aw):Bool:=W.am.ground c && !W.ah.any (tB c)
def free(W:ag)(c:aw):Option aw:=(fm c).find? W.HH
def D(W:ag)(d:dm):Option ag :=
 let s:=W.bl.getD d.H.toNat 0
 if bA d.H 0 ((W.aT.length:Int)-1) && bA d.Y 1 2 && decide (kp d.Y<=s) && decide (W.ah.length<100) && decide (W.next<1000000)then
  match W.free (W.aT.getD d.H.toNat default)with
  | none=>none
  | some c=>some {W with ah:=W.ah++ [⟨W.next,d.H,d.Y,c,gT d.Y,0⟩],next:=W.next+1,bl:=W.bl.set d.H.toNat (s-kp d.Y)}
 else none
def Y(W:ag)(d:dm):Option ag:=if d.O=1 then W.C d else if d.O=2 then W.drop d else if d.O=3 then W.D d else none
def O(W:ag):List dm->ag×List Bool
 | []=>(W,[])
 | d::l=>match W.Y d with
  | some V=>((V.O l).1,true::(V.O l).2)
  | none=>((W.O l).1,false::(W.O l).2)
end ag
def L'{l:List bb}{b:Int}(h:l.findIdx? (je b)=some k):∃ t,l[k]? =some t/\t.id=b/\l.getD k default=t:=by
 obtain⟨a,c,_⟩:=bc4.1 h;exact⟨l[k],bac a,by simpa[je]using c,by rw[baa,bac a];rfl⟩
def aPi{W:ag}(d:V.ah=W.ah.set k u)(a:W.ah[k]? =some t)(e:u.an=t.an)(i:Nat):V.kJ i=W.kJ i:=by
 unfold ag.kJ;rw[d,List.take_set,bbA];by_cases f:k<i
 .have b:((W.ah.take i).map (·.an))[k]? =some t.an:=by rw[bau,baR,bap f,a];rfl
  obtain⟨g,c⟩:=bab.1 b;rw[e,<-c];exact bbV _
 .rw[List.set_eq_of_length_le (by rw[bbd,baf];omega)]
def aJZ{W:ag}(d:V.ah=W.ah.set k u)(b:W.ah[k]? =some t)(e:u.id=t.id)(i:Nat):V.G i=W.G i:=by
 unfold ag.G;by_cases a:i=0
 .rw[bap a,bap a]
 .rw[ban a,ban a,d,baa,baa];by_cases c:k=i-1
  .subst c;rw[baw (bab.1 b).1,b];exact e
  .rw[baH c]
def Z7{W:ag}(d:V.ah=W.ah.set k u)(c:W.ah[k]? =some t){i:Nat}{x:bb}(a:V.ah[i]? =some x):(i=k/\x=u)\/(i≠k/\W.ah[i]? =some x):=by
 rw[d]at a;by_cases b:k=i
 .subst b;rw[baw (bab.1 c).1]at a;exact .inl ⟨Z,(bae a).symm⟩
 .rw[baH b]at a;exact .inr ⟨bdg b,a⟩
theorem Good.turned{W:ag}(h:Good W){n:Int}(b:W.ah[k]? =some t)(c:V.ah=W.ah.set k (ag.k_ t n))(l:0<=t.load+n/\t.load+n<=ag.zd t.O)
  (d:V.am=W.am)(f:V.aT=W.aT)(g:V.next=W.next)(r:V.db=W.db)
  (u:V.bl.length=W.bl.length)(q:∀(i:Nat) s,V.bl[i]? =some s->0<=s/\s<=1000000)
  (j:V.bE.length=W.bE.length)(p:∀(i:Nat) m,V.bE[i]? =some m->0<=m/\m<=1000000/\(m<=0\/W.am.G.getD i 0=3)):Good V:=by
 have e:=h.ah k t b;have o:V.ah.length=W.ah.length:=by rw[c,bak]
 refine⟨by rw[d];exact h.am,by rw[f];exact h.l5,by rw[o];exact h.dj,by rw[u,f];exact h.sl,?_,q,by rw[j,d];exact h.zc,by rw[d];exact p,λ i x a=>?_,λ i x a=>?_,λ i x a=>?_,by rw[g];exact h.next,by rw[r];exact h.db⟩
 .rw[f,d];exact h.aT
 .rw[d,f];rcases Z7 c b a with⟨rfl,rfl⟩|⟨_,a⟩
  .exact⟨e.O,e.H,e.ground,e.K,l⟩
  .exact h.ah i x a
 .rw[aJZ c b rfl,g];rcases Z7 c b a with⟨rfl,rfl⟩|⟨_,a⟩
  .exact h.ids i t b
  .exact h.ids i x a
 .rw[aPi c b rfl];rcases Z7 c b a with⟨rfl,rfl⟩|⟨_,a⟩
  .exact h.kJ i t b
  .exact h.kJ i x a
theorem aqI{W:ag}(h:W.C d=some V):∃(k:Nat) (t:bb),W.ah.findIdx? (je d.H)=some k/\W.ah[k]? =some t/\t.id=d.H/\t.O=1/\t.load<5/\beside t.an d.an=true/\W.am.dF d.an=true/\W.bE.getD (W.H d.an) 0≠0/\
  V={W with bE:=W.bE.set (W.H d.an) (W.bE.getD (W.H d.an) 0-1),ah:=W.ah.set k (ag.k_ t 1)}:=by
 unfold ag.C at h;cases b:W.ah.findIdx? (je d.H)with
 | none=>rw[b]at h;cases h
 | some k =>
  rw[b]at h;obtain⟨t,c,f,e⟩:=L' b;simp only[e]at h;split at h
  .rename_i a
   simp only[bai,baF,bdQ,ba9]at a;exact⟨k,t,Z,c,f,a.1.1.1.1,a.1.1.1.2,a.1.1.2,a.1.2,a.2,(bae h).symm⟩
  .cases h
theorem akm{W:ag}(h:W.drop d=some V):∃(k:Nat) (t:bb) (n:Int),W.ah.findIdx? (je d.H)=some k/\W.ah[k]? =some t/\t.id=d.H/\t.load≠0/\beside (W.aT.getD t.H.toNat default) t.an=true/\n=min t.load (1000000-W.bl.getD t.H.toNat 0)/\0<n/\
  V={W with bl:=W.bl.set t.H.toNat (W.bl.getD t.H.toNat 0+n),ah:=W.ah.set k (ag.k_ t (-n))}:=by
 unfold ag.drop at h;cases b:W.ah.findIdx? (je d.H)with
 | none=>rw[b]at h;cases h
 | some k =>
  rw[b]at h;obtain⟨t,c,f,e⟩:=L' b;simp only[e]at h;split at h
  .rename_i a
   simp only[bai,baF,bdQ]at a;exact⟨k,t,_,Z,c,f,a.1.1,a.1.2,Z,a.2,(bae h).symm⟩
  .cases h
theorem anc{W:ag}(h:W.D d=some V):∃ c:aw,W.free (W.aT.getD d.H.toNat default)=some c/\0<=d.H/\d.H<(W.aT.length:Int)/\(d.Y=1\/d.Y=2)/\ag.kp d.Y<=W.bl.getD d.H.toNat 0/\W.ah.length<100/\W.next<1000000/\
  V={W with ah:=W.ah++ [⟨W.next,d.H,d.Y,c,ag.gT d.Y,0⟩],next:=W.next+1,bl:=W.bl.set d.H.toNat (W.bl.getD d.H.toNat 0-ag.kp d.Y)}:=by
 unfold ag.D at h;simp only at h;split at h
 .rename_i e
  simp only[bai,baF]at e;have a:=j4 e.1.1.1.1;have b:=j4 e.1.1.1.2;split at h
  .cases h
  .rename_i c f
   exact⟨c,f,a.1,GE,GE,e.1.1.2,e.1.2,e.2,(bae h).symm⟩
 .cases h
def aMJ(k:Int):0<=ag.kp k:=by unfold ag.kp;split<;>(try split)<;>omega
theorem Good.C{W:ag}(h:Good W)(r:W.C d=some V):Good V:=by
 obtain⟨k,t,_,b,_,p,u,_,q,j,rfl⟩:=aqI r;have n:=h.ah k t b;have s:ag.zd t.O=5:=by rw[p];rfl
 obtain⟨v,w,_⟩:=aE.idx h.am q;have f:W.H d.an<W.bE.length:=by rw[h.zc];unfold ag.H;omega
 obtain⟨m,g⟩:=iK f;have o:=h.bE _ m g;have l:W.bE.getD (W.H d.an) 0=m:=by rw[baa,g];rfl
 rw[l]at j ⊢;refine h.turned b Z (by have:=n.load;omega) Z Z Z Z Z h.bl Kx λ i x a=>?_;simp only at a;by_cases c:W.H d.an=i
 .subst c;rw[baw f]at a;obtain rfl:=bae a;refine⟨GE,GE,?_⟩;rcases o.2.2 with e|e
  .omega
  .exact .inr e
 .rw[baH c]at a;exact h.bE i x a
theorem Good.drop{W:ag}(h:Good W)(l:W.drop d=some V):Good V:=by
 obtain⟨k,t,n,_,b,_,q,_,m,o,rfl⟩:=akm l;have c:=h.ah k t b;have f:t.H.toNat<W.bl.length:=by rw[h.sl];have:=c.H;omega
 obtain⟨s,g⟩:=iK f;have p:=h.bl _ s g;have j:W.bl.getD t.H.toNat 0=s:=by rw[baa,g];rfl
 rw[j]at m ⊢;refine h.turned b Z (by have:=c.load;omega) Z Z Z Z Kx (λ i x a=>?_) Z h.bE;simp only at a;by_cases e:t.H.toNat=i
 .subst e;rw[baw f]at a;obtain rfl:=bae a;omega
 .rw[baH e]at a;exact h.bl i x a
theorem Good.more{W:ag}{c:aw}(h:Good W)(z:W.am.ground c=true)(A:∀ t∈W.ah,t.an≠c)(r:0<=d.H)(y:d.H<(W.aT.length:Int))(j:d.Y=1\/d.Y=2)(w:ag.kp d.Y<=W.bl.getD d.H.toNat 0)(H:W.ah.length<100)(G:W.next<1000000):
  Good {W with ah:=W.ah++ [⟨W.next,d.H,d.Y,c,ag.gT d.Y,0⟩],next:=W.next+1,bl:=W.bl.set d.H.toNat (W.bl.getD d.H.toNat 0-ag.kp d.Y)}:=by
 have p:d.H.toNat<W.bl.length:=by rw[h.sl];omega
 obtain⟨s,q⟩:=iK p;have C:=h.bl _ s q;have u:W.bl.getD d.H.toNat 0=s:=by rw[baa,q];rfl
 rw[u]at w ⊢;have B:=aMJ d.Y;have F:=h.next;have o:∀ i,i<=W.ah.length->ag.kJ {W with ah:=W.ah++ [⟨W.next,d.H,d.Y,c,ag.gT d.Y,0⟩],next:=W.next+1,bl:=W.bl.set d.H.toNat (s-ag.kp d.Y)} i=W.kJ i:=λ i b=>by
  unfold ag.kJ;simp only;rw[beJ b]
 have n:∀ i,i<=W.ah.length->ag.G {W with ah:=W.ah++ [⟨W.next,d.H,d.Y,c,ag.gT d.Y,0⟩],next:=W.next+1,bl:=W.bl.set d.H.toNat (s-ag.kp d.Y)} i=W.G i:=λ i b=>by
  unfold ag.G;simp only;by_cases f:i=0
  .rw[bap f,bap f]
  .rw[ban f,ban f,baa,baa,baz GE]
 have m:∀(i:Nat) x,(W.ah++ [(⟨W.next,d.H,d.Y,c,ag.gT d.Y,0⟩:bb)])[i]? =some x->(i<W.ah.length/\W.ah[i]? =some x)\/(i=W.ah.length/\x=⟨W.next,d.H,d.Y,c,ag.gT d.Y,0⟩):=λ i x a=>by
  by_cases b:i<W.ah.length
  .rw[baz b]at a;exact .inl ⟨b,a⟩
  .rw[baD GE]at a;have f:i-W.ah.length=0:=by
    have:=(bab.1 a).1;simp at this;omega
   rw[f]at a;exact .inr ⟨GE,by simpa using a.symm⟩
 have D:W.G W.ah.length<W.next/\0<=W.G W.ah.length:=by
  by_cases f:W.ah.length=0
  .rw[f];exact⟨by show(0:Int)<_;omega,bbI _⟩
  .obtain⟨t,g⟩:=iK (l:=W.ah) (i:=W.ah.length-1) GE;have E:=h.ids _ t g;have e:W.G W.ah.length=t.id:=by
    unfold ag.G;rw[ban f,baa,g];rfl
   rw[e];omega
 refine⟨h.am,h.l5,by simp;omega,by simp;exact h.sl,h.aT,λ i x a=>?_,h.zc,h.bE,λ i x a=>?_,λ i x a=>?_,λ i x a=>?_,by simp only;omega,h.db⟩
 .simp only at a;by_cases b:d.H.toNat=i
  .subst b;rw[baw p]at a;obtain rfl:=bae a;omega
  .rw[baH b]at a;exact h.bl i x a
 .rcases m i x a with⟨_,a⟩|⟨_,rfl⟩
  .exact h.ah i x a
  .exact⟨j,⟨r,y⟩,z,by simp only;rcases j with h|h<;>rw[h]<;>decide,by simp only;rcases j with h|h<;>rw[h]<;>decide⟩
 .rcases m i x a with⟨b,a⟩|⟨rfl,rfl⟩
  .rw[n i GE];have:=h.ids i x a;simp only;omega
  .rw[n _ (bao _)];simp only;omega
 .rcases m i x a with⟨b,a⟩|⟨rfl,rfl⟩
  .rw[o i GE];exact h.kJ i x a
  .rw[o _ (bao _)];simp only;cases k:(W.kJ W.ah.length).contains c with
   | false=>rfl
   | true =>
    rw[bdd]at k;unfold ag.kJ at k;obtain⟨t,g,v⟩:=baV.1 k;exact absurd v (A t (bcK g))
def Good.D{W:ag}(h:Good W)(g:W.D d=some V):Good V:=by
 obtain⟨c,m,b,k,f,j,n,l,rfl⟩:=anc g;have a:=bdm m;unfold ag.HH at a;rw[bai]at a;exact h.more a.1 (λ t e i=>by
  have:=a.2;rw[ba3,bcm]at this;exact this t e (by simp[tB,i])) b k f j n l
def Good.Y{W:ag}(h:Good W)(a:W.Y d=some V):Good V:=by
 unfold ag.Y at a;split at a
 .exact h.C a
 .split at a
  .exact h.drop a
  .split at a
   .exact h.D a
   .cases a
def Good.O{W:ag}(h:Good W):∀ l:List dm,Good (W.O l).1:=by
 intro l;induction l generalizing W with
 | nil=>exact h
 | cons d l a =>
  unfold ag.O;cases b:W.Y d with
  | none=>exact a h
  | some V=>exact a (h.Y b)
end
theorem aMC(a:ag.cS)(W:ag)(w:World)(bk:ag.fd w a W)(aN:W.am.br=0)(hC:W.aT.length<=8):
    Calls prog 125 #[.agg (ag.cells a W).toArray] w λ e w'=>e=.returned (.bool W.U)/\Below w.heap.size w w':=by
  obtain⟨gd,hT,hU,gW,gl,gG,ho,hZ,hD,gY⟩:=a;show Calls _ _ #[.agg #[.int .i64 W.am.O,.int .i64 W.am.high,.slice gd W.am.G.length gG,.slice hT W.aT.length ho,.slice hU W.bl.length hZ,.slice gW W.bE.length hD,.slice gl W.ah.length gY,.int .i64 W.next,.int .i64 W.db]] _ _;obtain⟨l5,l9⟩:∃ n,Hid (W.aT.length=n):=⟨_,bag rfl⟩;obtain⟨ns,DH⟩:∃ n,Hid (W.bl.length=n):=⟨_,bag rfl⟩;have hC:l5<=8:=by rw[<-l9.out];exact hC
  have du:=nL w (.cells (ag.cells ⟨gd,hT,hU,gW,gl,gG,ho,hZ,hD,gY⟩ W).toArray 28);have k6:=bag (aO.new w (ag.cells ⟨gd,hT,hU,gW,gl,gG,ho,hZ,hD,gY⟩ W) 28 (0,0));have o9:=bag (bk.be du);have zJ:=bag aN;obtain⟨w0,k8⟩:∃ w0,Hid (w.alloc (.cells (ag.cells ⟨gd,hT,hU,gW,gl,gG,ho,hZ,hD,gY⟩ W).toArray 28)=w0):=⟨_,bag rfl⟩;rw[k8.out]at du o9;have k6:Hid (aO w0 w.heap.size (ag.cells ⟨gd,hT,hU,gW,gl,gG,ho,hZ,hD,gY⟩ W) 28 (0,0)):=by rw[<-k8.out];exact k6
  have rQ:Hid (w.alloc (.cells #[.int .i64 W.am.O,.int .i64 W.am.high,.slice gd W.am.G.length gG,.slice hT l5 ho,.slice hU ns hZ,.slice gW W.bE.length hD,.slice gl W.ah.length gY,.int .i64 W.next,.int .i64 W.db] 28)=w0):=by rw[<-k8.out,<-l9.out,<-DH.out];rfl
  obtain⟨cl,c1,c2,c3,c4,c5,eP,fi,fR⟩:=ag.V k6.out;rw[l9.out]at c3;rw[DH.out]at c4;clear bk aN;by_cases hlen:ns=l5
  · subst hlen
    have FZ:Hid (∀ j,j<0->W.A4 j=true):=bag λ j aB=>absurd aB GE;go_enter func125,ntmps125;rw[l9.out,DH.out];go_wp2_with fail
    rw[rQ.out];go_loopw [3,4,15] (λ _ _ dp wr=>∃ k:Nat,k<=ns/\dp=.int .i64 (k:Int)/\Hid (∀ j,j<k->W.A4 j=true)/\Below w0.heap.size w0 wr) (λ _ _ dp _=>ns-(intOf dp).toNat)
    case atStart=>exact⟨0,ba1 _,rfl,FZ,baL _ _⟩
    case round =>
      clear FZ cl c1 c2 c3 c4 c5 eP fi fR;obtain⟨k,au,rfl,jM,ae⟩:=hrel;by_cases bW:k<ns
      · obtain⟨p,hp⟩:=iK (l:=W.aT) (i:=k) (by rw[l9.out];exact bW)
        obtain⟨st,hs⟩:=iK (l:=W.bl) (i:=k) (by rw[DH.out];exact bW);have Vc:=o9.out.be ae;have alW:=k6.out.O ae;have Vb:aw.ce.aF 16 wr hT ho W.aT:=Vc.B;have PV:bN.aF 8 wr gd gG W.am.G:=Vc.P;have al6:bN.aF 8 wr hU hZ W.bl:=Vc.S;have aW6:(ns:Int)<=(ho:Int):=by have:=Vb.1;rw[l9.out]at this;omega
        obtain⟨b,o,rfl,lh⟩:=aw.d9 Vb (by rw[l9.out];omega);obtain⟨W7,mi⟩:=lh k p hp;obtain⟨cT,os,rfl,amP⟩:=Km al6 (by rw[DH.out];omega);have wG:=amP k st hs;obtain⟨cl,c1,c2,c3,c4,c5,eP,fi,fR⟩:=ag.V alW;rw[l9.out]at c3;rw[DH.out]at c4;have cA:W.A4 k=(W.am.ground p && !(W.aT.take k).contains p && bA st 0 1000000):=by
          unfold ag.A4;rw[baa,hp,baa,hs];rfl
        have dx:=nL wr (.cells #[.int .i64 p.x,.int .i64 p.y] 41);have U_:=aO.new wr p.cells 41 (0,0);obtain⟨a8,Zk⟩:∃ a8,Hid (wr.alloc (.cells #[.int .i64 p.x,.int .i64 p.y] 41)=a8):=⟨_,bag rfl⟩;rw[Zk.out]at dx;have U_:aO a8 wr.heap.size p.cells 41 (0,0):=by rw[<-Zk.out];exact U_
        obtain⟨Kl,r1⟩:=aw.iI U_;have mY:=bag (λ(V:World) (h:Below a8.heap.size a8 V)=>PR W.am p gd gG V ((PV.be dx).be h) zJ.out);have DA:=bag (λ(V:World) (h:Below a8.heap.size a8 V)=>aGg p (some ⟨b,o,none⟩) ho (W.aT.take k) V (((Vb.ND k).be dx).be h));have js:(W.aT.take k).length=k:=by rw[baf,l9.out];omega
        rw[js]at DA;have oD:=bag (λ(V:World)=>Yc st 0 1000000 V);have m_:=bag cA;have G1:=ae.trans (dx.mono ae.size);have sm:(k:Int)<(ns:Int):=GE
        have si:(0:Int)<=(k:Int):=GE
        have aHb:(k:Int)<=(ho:Int):=GE
        have adv:k<=ho:=GE
        clear Vc alW lh amP hp hs cA js Vb PV al6;go_wp2_with fail
        rw[Zk.out];have cl:=cell_later dx cl;have c1:=cell_later dx c1;have c2:=cell_later dx c2;have c3:=cell_later dx c3;have c4:=cell_later dx c4;have wG:=cell_later dx wG;have gO:=bag (λ(ox:World) (h:Below a8.heap.size a8 ox)=>(⟨trivial,cell_later h cl,cell_later h c1,cell_later h c2,cell_later h c3,cell_later h c4,cell_later h Kl,cell_later h r1,cell_later h wG⟩:True/\ox.cell? ⟨w.heap.size,0,none⟩=some (.int .i64 W.am.O)/\ox.cell? ⟨w.heap.size,1,none⟩=some (.int .i64 W.am.high)/\ox.cell? ⟨w.heap.size,2,none⟩=some (.slice gd W.am.G.length gG)/\ox.cell? ⟨w.heap.size,3,none⟩=some (.slice (some ⟨b,o,none⟩) ns ho)/\ox.cell? ⟨w.heap.size,4,none⟩=some (.slice (some ⟨cT,os,none⟩) ns hZ)/\ox.cell? ⟨wr.heap.size,0,none⟩=some (.int .i64 p.x)/\ox.cell? ⟨wr.heap.size,1,none⟩=some (.int .i64 p.y)/\ox.cell? ⟨cT,os+k,none⟩=some (.int .i64 st)));clear W7 mi c5 eP fi fR U_;cases aa:W.am.ground p with
        | false =>
          rw[aa]at mY;have c9:Hid (W.U=false):=ag.ae3 (k:=k) (by rw[l9.out];exact bW) (by rw[m_.out,aa];rfl);clear aa;refine Yf GT GT ?_;repeat (first
            | go_big_quiet_skip
            | (go_big_quiet_want
               first
               | (go_big_quiet_op;go_big_quiet_on)
               | (apply Exists.intro
                  refine⟨λ KN I=>?_,?_⟩
                  · first
                    | (obtain⟨_,afa,afb,afc,afd,afe,aff,afg,afh⟩:=gO.out KN I
                       apply Xm
                       · (go_simp;rfl)
                       · rfl)
                    | (apply Xl
                       · (go_simp;rfl)
                       · rfl
                       · first
                         | (with_reducible refine(mY.out _ I).mono ?_;rintro e dn ⟨rfl,bQ⟩;exact⟨rfl,qH I bQ⟩)
                         | (with_reducible refine(DA.out _ I).mono ?_;rintro e dn ⟨rfl,bQ⟩;exact⟨rfl,qH I bQ⟩)
                         | (with_reducible refine(oD.out _).mono ?_;rintro e dn ⟨rfl,rfl⟩;exact⟨rfl,I⟩)
                       )
                  go_big_quiet_on
                  simp only[Act.put,bcJ,bbJ,bbW])))
          refine beR ?_;intro Fu b1;go_wp2_with fail
          go_ret;exact⟨jS c9.out.symm,du.trans ((G1.trans (be9 b1 G1.size)).mono du.size)⟩
        | true =>
          rw[aa]at mY;cases ab:(W.aT.take k).contains p with
          | true =>
            rw[ab]at DA;have c9:Hid (W.U=false):=ag.ae3 (k:=k) (by rw[l9.out];exact bW) (by rw[m_.out,aa,ab];rfl);clear aa ab;refine Yf GT GT ?_;repeat (first
              | go_big_quiet_skip
              | (go_big_quiet_want
                 first
                 | (go_big_quiet_op;go_big_quiet_on)
                 | (apply Exists.intro
                    refine⟨λ KN I=>?_,?_⟩
                    · first
                      | (obtain⟨_,afa,afb,afc,afd,afe,aff,afg,afh⟩:=gO.out KN I
                         apply Xm
                         · (go_simp;rfl)
                         · rfl)
                      | (apply Xl
                         · (go_simp;rfl)
                         · rfl
                         · first
                           | (with_reducible refine(mY.out _ I).mono ?_;rintro e dn ⟨rfl,bQ⟩;exact⟨rfl,qH I bQ⟩)
                           | (with_reducible refine(DA.out _ I).mono ?_;rintro e dn ⟨rfl,bQ⟩;exact⟨rfl,qH I bQ⟩)
                           | (with_reducible refine(oD.out _).mono ?_;rintro e dn ⟨rfl,rfl⟩;exact⟨rfl,I⟩)
                         )
                    go_big_quiet_on
                    simp only[Act.put,bcJ,bbJ,bbW])))
            refine beR ?_;intro Fu b1;go_wp2_with fail
            go_ret;exact⟨jS c9.out.symm,du.trans ((G1.trans (be9 b1 G1.size)).mono du.size)⟩
          | false =>
            rw[ab]at DA;cases ay:bA st 0 1000000 with
            | false =>
              rw[ay]at oD;have c9:Hid (W.U=false):=ag.ae3 (k:=k) (by rw[l9.out];exact bW) (by rw[m_.out,ay,beX]);clear aa ab ay;refine Yf GT GT ?_;repeat (first
                | go_big_quiet_skip
                | (go_big_quiet_want
                   first
                   | (go_big_quiet_op;go_big_quiet_on)
                   | (apply Exists.intro
                      refine⟨λ KN I=>?_,?_⟩
                      · first
                        | (obtain⟨_,afa,afb,afc,afd,afe,aff,afg,afh⟩:=gO.out KN I
                           apply Xm
                           · (go_simp;rfl)
                           · rfl)
                        | (apply Xl
                           · (go_simp;rfl)
                           · rfl
                           · first
                             | (with_reducible refine(mY.out _ I).mono ?_;rintro e dn ⟨rfl,bQ⟩;exact⟨rfl,qH I bQ⟩)
                             | (with_reducible refine(DA.out _ I).mono ?_;rintro e dn ⟨rfl,bQ⟩;exact⟨rfl,qH I bQ⟩)
                             | (with_reducible refine(oD.out _).mono ?_;rintro e dn ⟨rfl,rfl⟩;exact⟨rfl,I⟩)
                           )
                      go_big_quiet_on
                      simp only[Act.put,bcJ,bbJ,bbW])))
              refine beR ?_;intro Fu b1;go_wp2_with fail
              go_ret;exact⟨jS c9.out.symm,du.trans ((G1.trans (be9 b1 G1.size)).mono du.size)⟩
            | true =>
              rw[ay]at oD;have rP:Hid (∀ j,j<k+1->W.A4 j=true):=by
                intro j aB;by_cases ix:j<k
                · exact jM.out j ix
                · obtain rfl:j=k:=GE
                  rw[m_.out,aa,ab,ay];rfl
              clear aa ab ay;refine Yf GT GT ?_;repeat (first
                | go_big_quiet_skip
                | (go_big_quiet_want
                   first
                   | (go_big_quiet_op;go_big_quiet_on)
                   | (apply Exists.intro
                      refine⟨λ KN I=>?_,?_⟩
                      · first
                        | (obtain⟨_,afa,afb,afc,afd,afe,aff,afg,afh⟩:=gO.out KN I
                           apply Xm
                           · (go_simp;rfl)
                           · rfl)
                        | (apply Xl
                           · (go_simp;rfl)
                           · rfl
                           · first
                             | (with_reducible refine(mY.out _ I).mono ?_;rintro e dn ⟨rfl,bQ⟩;exact⟨rfl,qH I bQ⟩)
                             | (with_reducible refine(DA.out _ I).mono ?_;rintro e dn ⟨rfl,bQ⟩;exact⟨rfl,qH I bQ⟩)
                             | (with_reducible refine(oD.out _).mono ?_;rintro e dn ⟨rfl,rfl⟩;exact⟨rfl,I⟩)
                           )
                      go_big_quiet_on
                      simp only[Act.put,bcJ,bbJ,bbW])))
              refine beR ?_;intro Fu b1;go_wp2_with fail
              go_roundw
              case rel=>exact⟨k+1,GE,by go_num,rP,G1.trans (be9 b1 G1.size)⟩
              case measure=>simp[intOf];omega
      · have ub:Hid (W.U=true):=ag.arv (by rw[DH.out,l9.out]) λ j aB=>jM.out j (by rw[l9.out]at aB;omega)
        clear jM;go_wp2_with fail
        go_ret;exact⟨jS ub.out.symm,du.trans (ae.mono du.size)⟩
  · have ub:Hid (W.U=false):=ag.aMD (by rw[DH.out,l9.out];exact hlen)
    have hd:((ns:Int) != (l5:Int))=true:=by simp;omega
    rw[ub.out];go_enter func125,ntmps125;rw[l9.out,DH.out];go_wp2_with fail
    go_ret;rw[rQ.out];exact⟨Z,du⟩
theorem aK1(a:ag.cS)(W:ag)(w:World)(bk:ag.fd w a W):
  Calls prog 126 #[.agg (ag.cells a W).toArray] w λ e w'=>e=.returned (.bool W.F)/\Below w.heap.size w w':=by
 obtain⟨gd,hT,hU,gW,gl,gG,ho,hZ,hD,gY⟩:=a;show Calls _ _ #[.agg #[.int .i64 W.am.O,.int .i64 W.am.high,.slice gd W.am.G.length gG,.slice hT W.aT.length ho,.slice hU W.bl.length hZ,.slice gW W.bE.length hD,.slice gl W.ah.length gY,.int .i64 W.next,.int .i64 W.db]] _ _;have du:=nL w (.cells (ag.cells ⟨gd,hT,hU,gW,gl,gG,ho,hZ,hD,gY⟩ W).toArray 28);have k6:=bag (aO.new w (ag.cells ⟨gd,hT,hU,gW,gl,gG,ho,hZ,hD,gY⟩ W) 28 (0,0));have o9:=bag (bk.be du);obtain⟨w0,k8⟩:∃ w0,Hid (w.alloc (.cells (ag.cells ⟨gd,hT,hU,gW,gl,gG,ho,hZ,hD,gY⟩ W).toArray 28)=w0):=⟨_,bag rfl⟩;rw[k8.out]at du o9;have k6:Hid (aO w0 w.heap.size (ag.cells ⟨gd,hT,hU,gW,gl,gG,ho,hZ,hD,gY⟩ W) 28 (0,0)):=by rw[<-k8.out];exact k6
 obtain⟨nm,xb⟩:∃ n,Hid (W.bE.length=n):=⟨_,bag rfl⟩;obtain⟨Rr,DG⟩:∃ n,Hid (W.am.G.length=n):=⟨_,bag rfl⟩;have hle:nm<=9223372036854775807:=by have:=bk.M.M;rw[xb.out]at this;exact this
 have rQ:Hid (w.alloc (.cells #[.int .i64 W.am.O,.int .i64 W.am.high,.slice gd Rr gG,.slice hT W.aT.length ho,.slice hU W.bl.length hZ,.slice gW nm hD,.slice gl W.ah.length gY,.int .i64 W.next,.int .i64 W.db] 28)=w0):=by rw[<-k8.out,<-xb.out,<-DG.out];rfl
 obtain⟨cl,c1,c2,c3,c4,c5,eP,fi,fR⟩:=ag.V k6.out;rw[DG.out]at c2;rw[xb.out]at c5;clear bk;by_cases hlen:nm=Rr
 .subst hlen;have FZ:Hid (∀ j,j<0->W.A5 j=true):=bag λ j aB=>absurd aB GE;go_enter func126,ntmps126;rw[DG.out,xb.out];go_wp2_with fail
  rw[rQ.out];go_loopw [3,4,16] (λ _ _ dp wr=>∃ k:Nat,k<=nm/\dp=.int .i64 (k:Int)/\Hid (∀ j,j<k->W.A5 j=true)/\Hid (wr=w0)) (λ _ _ dp _=>nm-(intOf dp).toNat)
  case atStart=>exact⟨0,ba1 _,rfl,FZ,rfl⟩
  case round =>
   clear FZ cl c1 c2 c3 c4 c5 eP fi fR;obtain⟨k,au,rfl,jM,Lo⟩:=hrel;obtain⟨cl,c1,c2,c3,c4,c5,eP,fi,fR⟩:=ag.V (show aO wr w.heap.size (ag.cells ⟨gd,hT,hU,gW,gl,gG,ho,hZ,hD,gY⟩ W) 28 (0,0) by rw[Lo.out];exact k6.out);rw[DG.out]at c2;rw[xb.out]at c5;have od:Below w.heap.size w wr:=by rw[Lo.out];exact du
   by_cases bW:k<nm
   .obtain⟨p,hp⟩:=iK (l:=W.am.G) (i:=k) (by rw[DG.out];exact bW);obtain⟨m,hm⟩:=iK (l:=W.bE) (i:=k) (by rw[xb.out];exact bW);have PV:bN.aF 8 wr gd gG W.am.G:=by rw[Lo.out];exact o9.out.P
    have al5:bN.aF 8 wr gW hD W.bE:=by rw[Lo.out];exact o9.out.M
    obtain⟨b,o,rfl,lh⟩:=Km PV (by rw[DG.out];omega);have W7:=lh k p hp;obtain⟨aVT,a03,rfl,amO⟩:=Km al5 (by rw[xb.out];omega);have m0:=amO k m hm;have cA:W.A5 k=(bA m 0 1000000 && (decide (m<=0) || p == 3)):=by
     unfold ag.A5;rw[baa,hm,baa,hp];rfl
    have oD:=bag (λ(V:World)=>Yc m 0 1000000 V);have m_:=bag cA;have sm:(k:Int)<(nm:Int):=GE
    have si:(0:Int)<=(k:Int):=GE
    clear PV al5 lh amO hp hm cA;cases aa:bA m 0 1000000 with
    | false =>
     rw[aa]at oD;have c9:Hid (W.F=false):=ag.aqK (k:=k) (by rw[xb.out];exact bW) (by rw[m_.out,aa];rfl);clear aa;go_wp2_with fail
     refine(oD.out _).mono ?_;rintro e w' ⟨rfl,rfl⟩;go_wp2_with fail
     go_ret;exact⟨jS c9.out.symm,od⟩
    | true =>
     rw[aa]at oD;by_cases ab:m<=0
     .have hd:decide (0<m)=false:=by simp;omega
      have rP:Hid (∀ j,j<k+1->W.A5 j=true):=by
       intro j aB;by_cases ix:j<k
       .exact jM.out j ix
       .obtain rfl:j=k:=GE
        rw[m_.out,aa,baG ab];rfl
      clear aa;go_wp2_with fail
      refine(oD.out _).mono ?_;rintro e w' ⟨rfl,rfl⟩;go_wp2_with fail
      go_roundw
      case rel=>exact⟨k+1,GE,by go_num,rP,Lo⟩
      case measure=>simp[intOf];omega
     .have hd:decide (0<m)=true:=by simp;omega
      by_cases ay:p=3
      .subst ay;have rP:Hid (∀ j,j<k+1->W.A5 j=true):=by
        intro j aB;by_cases ix:j<k
        .exact jM.out j ix
        .obtain rfl:j=k:=GE
         rw[m_.out,aa];simp
       clear aa ab;go_wp2_with fail
       refine(oD.out _).mono ?_;rintro e w' ⟨rfl,rfl⟩;go_wp2_with fail
       go_roundw
       case rel=>exact⟨k+1,GE,by go_num,rP,Lo⟩
       case measure=>simp[intOf];omega
      .have c9:Hid (W.F=false):=ag.aqK (k:=k) (by rw[xb.out];exact bW) (by rw[m_.out,baA ab,beq_false_of_ne ay];simp);have ED:(p == 3)=false:=by simpa using ay
       clear aa ab ay;go_wp2_with fail
       refine(oD.out _).mono ?_;rintro e w' ⟨rfl,rfl⟩;go_wp2_with fail
       go_ret;exact⟨jS c9.out.symm,od⟩
   .have ub:Hid (W.F=true):=ag.aqL (by rw[xb.out,DG.out]) λ j aB=>jM.out j (by rw[xb.out]at aB;omega);clear jM;go_wp2_with fail
    go_ret;exact⟨jS ub.out.symm,od⟩
 .have ub:Hid (W.F=false):=ag.aK2 (by rw[xb.out,DG.out];exact hlen);have hd:((nm:Int) != (Rr:Int))=true:=by simp;omega
  rw[ub.out];go_enter func126,ntmps126;rw[DG.out,xb.out];go_wp2_with fail
  go_ret;rw[rQ.out];exact⟨Z,du⟩
section
open Go.RowKit Go.Maps
namespace aw
def key(c:aw):Value:=.agg #[.int .i64 c.x,.int .i64 c.y]
def laid:laidOutB prog=true:=GT
def aJu(x y:Int):(Value.agg #[.int .i64 x,.int .i64 y]).formed prog 41 =true:=GT
def aJx:prog.keyType 41 =true:=GT
def aJw:∃ n,prog.types.size+1=n+2:=by
 have:1<=prog.types.size:=by decide +kernel
 exact⟨prog.types.size-1,GE⟩
def aJt:prog.cellsOf 41 =2/\prog.cellsOf 3 =1:=by
 constructor<;>kernel_rfl
theorem aJv(c:aw)(h:c.ok):∃ l,keyOf prog 41 (key c)=some l:=by
 obtain⟨g,b⟩:=h;obtain⟨n,f⟩:=aJw;unfold key keyOf;have a:=underlying41;rw[a];simp only[aJx,aJu,Bool.and_self,bcj,f];have d:prog.keyLits (n+2) 41 [.int .i64 c.x,.int .i64 c.y]=some [.int .i64 c.x,.int .i64 c.y]:=by
  simp[Program.keyLits,a,underlying3,aJt,g,b]
 exact⟨.string (keyBytes [.int .i64 c.x,.int .i64 c.y]),by
  have e:(Value.agg #[.int .i64 c.x,.int .i64 c.y]).cells.toList=[.int .i64 c.x,.int .i64 c.y]:=rfl;rw[e,d];rfl⟩
def CI:Zo prog 41 key ok where
 keyed:=Keyed.of_law (Go.deep_law_laid laid (m:=100) GP (by decide +kernel) GT GT)
 lit:=aJv
 inj:=by
  intro a b h;unfold key at h;injection h with h
  obtain⟨x,y⟩:=a;obtain⟨z,t⟩:=b;simp at h;simp[h]
end aw
end
section
variable{w:World}
def rK{n lo a:Int}{b:Bool}(h:bA n lo a=b)(w:World):Calls prog 156 #[.int .i64 n,.int .i64 lo,.int .i64 a] w λ e w'=>e=.returned (.bool b)/\w=w':=by
 have:=Yc n lo a w;rw[h]at this;exact this
def eO.drewN{a:Type}{key:a->Value}{b:Nat}{l:List (a×Int×Nat)}{c:Nat}(h:eO key w b l c)(n:Nat):eO key (w.drewN n) b l c:=⟨h.iI,h.born,h.stamps⟩
def akj(w:World):w.drewN 1=w.drew:=rfl
def aO.of_heap{w':World}{g:Nat}{cur:List Value}{e:TypeId}{a:Nat×Nat}(h:aO w g cur e a)(b:w'.heap[g]? =w.heap[g]?):aO w' g cur e a:=b.trans h
theorem ali{b:Nat}{l:List (aw×Int×Nat)}{f:Nat}(h:eO aw.key w b l f)(q:∀ e∈l,e.1.ok)(o:(l.map (·.1)).Nodup)(x:aw)(j:x.ok)(v:Int)(H:(eO.get l x).getD 0=v):
  ∃(k:Nat) (m:List (aw×Int×Nat)) (c1:Nat) (i c:World),
   (∀ n,(Instr.lookup 217 (.map (some b)) (.agg #[.int .i64 x.x,.int .i64 x.y]) false).run prog (w.drewN n)=.ok (.int .i64 v) (w.drewN n))/\
   (∀ n,(Instr.mapEntry 217 (.map (some b)) (.agg #[.int .i64 x.x,.int .i64 x.y])).run prog (w.drewN n)=.ok (.tuple #[.int .i64 v,.int .i64 (k:Int)]) (i.drewN n))/\
   (∀ n,(Instr.lookup 217 (.map (some b)) (.agg #[.int .i64 x.x,.int .i64 x.y]) false).run prog (i.drewN n)=.ok (.int .i64 v) (i.drewN n))/\
   (∀ n,(Instr.entryStore 217 (.map (some b)) (.int .i64 (k:Int)) (.int .i64 (v+1))).run prog (i.drewN n)=.ok () (c.drewN n))/\
   (∀ n,(Instr.lookup 217 (.map (some b)) (.agg #[.int .i64 x.x,.int .i64 x.y]) false).run prog (c.drewN n)=.ok (.int .i64 (v+1)) (c.drewN n))/\
   eO aw.key c b (eO.put l f x (v+1)) (eO.tick l f x)/\
   (∀ p:Addr,p.block≠b->i.cell? p=w.cell? p)/\(∀ p:Addr,p.block≠b->c.cell? p=w.cell? p)/\
   ∀ {B:Nat} {a:World},B<=b->(Below B a w->Below B a c)/\(∀ g,g≠b->c.heap[g]? =w.heap[g]?):=by
 obtain⟨k,m,z,y,F,G,K,A,u⟩:=eO.entry aw.CI underlying217 beP h q o x j;have r:=λ n=>(eO.lookup (w:=w.drewN n) aw.CI underlying217 (beP _) (h.drewN n) q o x j).1;have s:=λ n=>(eO.lookup (w:=(kI w b (m.map (eQ aw.key)).toArray z).drewN n) aw.CI underlying217 (beP _) (F.drewN n) G K x j).1;have d:=(u (v+1) 0).2;have t:=λ n=>(eO.lookup (w:=(kI w b ((eO.put l f x (v+1)).map (eQ aw.key)).toArray (eO.tick l f x)).drewN n) aw.CI underlying217 (beP _) (d.drewN n) (eO.aeI q j) (eO.MX o f x (v+1)) x j).1;simp only[A,H,bbq]at r s y;simp only[eO.Eo,bap,bbq]at t;exact⟨k,m,z,_,_,r,y,s,λ n=>(u (v+1) n).1,t,d,λ p d=>bfH (RN d),λ p d=>bfH (RN d),
  λ{B a} E=>⟨λ D=>aO0 D E,λ g C=>RN C⟩⟩
theorem aPR(a:ag.cS)(W:ag)(w:World)(bk:ag.fd w a W)(aN:W.am.br=0)(hC:W.aT.length<=8)(Aw:W.ah.length<=100):
  Calls prog 127 #[.agg (ag.cells a W).toArray] w λ e w'=>e=.returned (.bool W.K)/\Below w.heap.size w w':=by
 obtain⟨gd,hT,hU,gW,gl,gG,ho,hZ,hD,gY⟩:=a;show Calls _ _ #[.agg #[.int .i64 W.am.O,.int .i64 W.am.high,.slice gd W.am.G.length gG,.slice hT W.aT.length ho,.slice hU W.bl.length hZ,.slice gW W.bE.length hD,.slice gl W.ah.length gY,.int .i64 W.next,.int .i64 W.db]] _ _;have du:=nL w (.cells (ag.cells ⟨gd,hT,hU,gW,gl,gG,ho,hZ,hD,gY⟩ W).toArray 28);have k6:=bag (aO.new w (ag.cells ⟨gd,hT,hU,gW,gl,gG,ho,hZ,hD,gY⟩ W) 28 (0,0));have o9:=bag (bk.be du);obtain⟨w0,k8⟩:∃ w0,Hid (w.alloc (.cells (ag.cells ⟨gd,hT,hU,gW,gl,gG,ho,hZ,hD,gY⟩ W).toArray 28)=w0):=⟨_,bag rfl⟩;rw[k8.out]at du o9;have k6:Hid (aO w0 w.heap.size (ag.cells ⟨gd,hT,hU,gW,gl,gG,ho,hZ,hD,gY⟩ W) 28 (0,0)):=by rw[<-k8.out];exact k6
 obtain⟨dj,kv⟩:∃ n,Hid (W.ah.length=n):=⟨_,bag rfl⟩;obtain⟨l5,l9⟩:∃ n,Hid (W.aT.length=n):=⟨_,bag rfl⟩;have hC:l5<=8:=by rw[<-l9.out];exact hC
 have Aw:dj<=100:=by rw[<-kv.out];exact Aw
 have zJ:=bag aN;have F3:=bag bk;obtain⟨J',p_⟩:∃ J',wrap64 (W.next-1)=J':=⟨_,rfl⟩;have ahF:=bag p_;have rQ:Hid (w.alloc (.cells #[.int .i64 W.am.O,.int .i64 W.am.high,.slice gd W.am.G.length gG,.slice hT l5 ho,.slice hU W.bl.length hZ,.slice gW W.bE.length hD,.slice gl dj gY,.int .i64 W.next,.int .i64 W.db] 28)=w0):=by rw[<-k8.out,<-l9.out,<-kv.out];rfl
 obtain⟨cl,c1,c2,c3,c4,c5,eP,fi,fR⟩:=ag.V k6.out;rw[l9.out]at c3;rw[kv.out]at eP;clear bk aN;have Hg:=@run_makeMap prog;have VJ:=eO.made (key:=aw.key) w0;have Vt:=nL w0 (.map #[] 0);obtain⟨aud,ahP⟩:∃ aud,Hid (w0.alloc (.map #[] 0)=aud):=⟨_,bag rfl⟩;rw[ahP.out]at VJ Vt;have nT:w0.heap.size=w.heap.size+1:=by rw[<-k8.out];simp
 rw[nT]at VJ;have Za:=bag VJ;have FZ:Hid (∀ j,j<0->W.A6 j=true):=bag λ j aB=>absurd aB GE;clear VJ;go_enter func127,ntmps127;rw[l9.out,kv.out];go_wp2_with fail
 rw[rQ.out,ahP.out];have ahD:Hid (bN.aF 8 w gd gG W.am.G):=bag F3.out.P;have awl:Hid (bb.ce.aF 56 w gl gY W.ah):=bag F3.out.T;have aXu:=Aw;have U8:=k6.out.O Vt;have amx:=du.trans (Vt.mono du.size);clear cl c1 c2 c3 c4 c5 eP fi fR Hg;obtain⟨eR,Zb⟩:∃ eR,Hid (w.heap.size+1=eR):=⟨_,bag rfl⟩;rw[Zb.out];rw[Zb.out]at Za;go_loopw [3,6,7,8,9,14] (λ aKA _ _ _ _ dp wr=>∃(k:Nat) (l:List (aw×Int×Nat)) (nM:Nat),k<=dj/\dp=.int .i64 (k:Int)/\aKA=.int .i64 (W.G k)/\Hid (∀ j,j<k->W.A6 j=true)/\Hid (eO aw.key wr eR l nM)/\Hid (∀ e∈l,e.1.ok)/\Hid ((l.map (·.1)).Nodup)/\Hid (∀ c,eO.get l c=if(W.kJ k).contains c=true then some 1 else none)/\Hid (aO wr w.heap.size (ag.cells ⟨gd,hT,hU,gW,gl,gG,ho,hZ,hD,gY⟩ W) 28 (0,0))/\Below w.heap.size w wr) (λ _ _ _ _ _ dp _=>dj-(intOf dp).toNat)
 case atStart=>exact⟨0,[],0,ba1 _,rfl,rfl,FZ,Za,(λ e he=>by simp at he),beU,(λ c=>by simp[eO.get,ag.kJ]),U8,amx⟩
 case round =>
  clear FZ Za U8 amx;obtain⟨k,l,nM,au,rfl,rfl,jM,mZ,Tc,S6,FX,Li,od⟩:=hrel;obtain⟨cl,c1,c2,c3,c4,c5,eP,fi,fR⟩:=ag.V Li.out;rw[l9.out]at c3;rw[kv.out]at eP;by_cases bW:k<dj
  .obtain⟨t,aK⟩:=iK (l:=W.ah) (i:=k) (by rw[kv.out];exact bW);have al7:=awl.out.be od;obtain⟨b,o,rfl,lh⟩:=bb.d9 al7 (by rw[kv.out];omega);obtain⟨W7,mi,nu,mj,uX,ard,arf⟩:=lh k t aK;obtain⟨jK,uJ⟩:∃ jK,wrap64 (W.G k+1)=jK:=⟨_,rfl⟩;have cA:W.A6 k=(W.Rt jK J' t && !(W.kJ k).contains t.an):=by
    unfold ag.A6;rw[baa,aK,uJ,ahF.out];rfl
   unfold ag.Rt at cA;rw[l9.out]at cA;have anD:W.G (k+1)=t.id:=by
    unfold ag.G;rw[ban GE,baa,bek,aK];rfl
   have an5:W.kJ (k+1)=W.kJ k++ [t.an]:=by
    unfold ag.kJ;rw[baI (by rw[kv.out];exact bW),baJ];have:W.ah[k]'(by rw[kv.out];exact bW)=t:=by
     rw[bac (by rw[kv.out];exact bW)]at aK;exact bae aK
    rw[this];rfl
   have ahE:=bag anD;have ahM:=bag an5;have dx:=nL wr (.cells #[.int .i64 t.id,.int .i64 t.H,.int .i64 t.O,.int .i64 t.an.x,.int .i64 t.an.y,.int .i64 t.K,.int .i64 t.load] 68);have al0:=aO.new wr t.cells 68 (0,0);obtain⟨a8,OC⟩:∃ a8,Hid (wr.alloc (.cells #[.int .i64 t.id,.int .i64 t.H,.int .i64 t.O,.int .i64 t.an.x,.int .i64 t.an.y,.int .i64 t.K,.int .i64 t.load] 68)=a8):=⟨_,bag rfl⟩;rw[OC.out]at dx;have FV:Hid (aO a8 wr.heap.size t.cells 68 (0,0)):=by rw[<-OC.out];exact al0
   have adz:eR<wr.heap.size:=mZ.out.lt;have anv:w.heap.size<eR:=by have:=Zb.out;omega
   have sm:(k:Int)<(dj:Int):=GE
   have si:(0:Int)<=(k:Int):=GE
   clear al7 lh aK anD an5 al0 p_;have p_:=ahF.out;by_cases sj:t.O=1
   .have DK:=bag sj;rw[sj]at nu;clear sj;have Ou:=bag (λ V:World=>apJ V);have Qx:ag.gT 1=10:=rfl;have QA:ag.zd 1=5:=rfl;rw[DK.out,Qx,QA]at cA;have m_:=bag cA;clear Qx QA cA;have Zj:Hid (wr.alloc (.cells #[.int .i64 t.id,.int .i64 t.H,.int .i64 1,.int .i64 t.an.x,.int .i64 t.an.y,.int .i64 t.K,.int .i64 t.load] 68)=a8):=by rw[<-OC.out,DK.out];rfl
    go_wp2_with fail
    rw[Zj.out];refine(Ou.out _).mono ?_;rintro e dn ⟨rfl,bQ⟩;have yW:=dx.trans (bQ.mono dx.size);have eD:=nL dn (.cells #[.int .i64 10,.int .i64 1,.int .i64 1,.int .i64 5] 193);have Es:=aO.new dn [.int .i64 10,.int .i64 1,.int .i64 1,.int .i64 5] 193 (0,0);obtain⟨w3,Iz⟩:∃ w3,Hid (dn.alloc (.cells #[.int .i64 10,.int .i64 1,.int .i64 1,.int .i64 5] 193)=w3):=⟨_,bag rfl⟩;rw[Iz.out]at eD;have Es:aO w3 dn.heap.size [.int .i64 10,.int .i64 1,.int .i64 1,.int .i64 5] 193 (0,0):=by rw[<-Iz.out];exact Es
    have EN:w3.cell? ⟨dn.heap.size,0,none⟩=some (.int .i64 10):=Es.cell 0;have uB:=yW.trans (eD.mono yW.size);have Iu:=bag ((FV.out.O bQ).O eD);have Ov:=bag (mZ.out.O uB);have It:=bag (Li.out.O uB);have Jr:=od.trans (uB.mono od.size);have Oq:=bag (ahD.out.be Jr);obtain⟨t0,t1,t2,t3,t4,t5,t6⟩:=bb.iI ((FV.out.O bQ));rw[DK.out]at t2;clear cl c1 c2 c3 c4 c5 eP fi fR;obtain⟨cl,c1,c2,c3,c4,c5,eP,fi,fR⟩:=ag.V (Li.out.O yW);rw[l9.out]at c3;rw[kv.out]at eP;have amz:wr.heap.size<dn.heap.size:=by have:=bQ.size;have:=FV.out.lt;omega
    have amA:w.heap.size<dn.heap.size:=by have:=adz;omega
    go_wp2_with fail
    rw[Iz.out];clear t0 t1 t2 t3 t4 t5 t6 cl c1 c2 c3 c4 c5 eP fi fR;obtain⟨t0,t1,t2,t3,t4,t5,t6⟩:=bb.iI Iu.out;obtain⟨cl,c1,c2,c3,c4,c5,eP,fi,fR⟩:=ag.V It.out;rw[l9.out]at c3;rw[kv.out]at eP;rw[DK.out]at t2;clear bQ Es eD yW;cases aN:bA t.id jK J' with
    | false =>
     have c9:Hid (W.K=false):=ag.r (k:=k) (by rw[kv.out];exact bW) (by rw[m_.out,aN];simp);have DB:=bag aN;clear aN;refine(rK DB.out _).mono ?_;rintro e w' ⟨rfl,rfl⟩;go_wp2_with fail
     go_ret;exact⟨jS c9.out.symm,Jr⟩
    | true =>
     have DB:=bag aN;clear aN;refine(rK DB.out _).mono ?_;rintro e w' ⟨rfl,rfl⟩;go_wp2_with fail
     cases aa:bA t.H 0 ((l5:Int)-1)with
     | false =>
      have c9:Hid (W.K=false):=ag.r (k:=k) (by rw[kv.out];exact bW) (by rw[m_.out,aa];simp);have fu:=bag aa;clear aa;refine(rK fu.out _).mono ?_;rintro e w' ⟨rfl,rfl⟩;go_wp2_with fail
      go_ret;exact⟨jS c9.out.symm,Jr⟩
     | true =>
      have fu:=bag aa;clear aa;refine(rK fu.out _).mono ?_;rintro e w' ⟨rfl,rfl⟩;go_wp2_with fail
      cases ab:W.am.ground t.an with
      | false =>
       have c9:Hid (W.K=false):=ag.r (k:=k) (by rw[kv.out];exact bW) (by rw[m_.out,ab];simp);have zL:=bag ab;clear ab;have mY:=PR W.am t.an gd gG _ Oq.out zJ.out;rw[zL.out]at mY;refine mY.mono ?_;rintro e xV ⟨rfl,eJ⟩;have Jn:=uB.trans (eJ.mono uB.size);have AA:=od.trans (Jn.mono od.size);have Iv:=bag (Iu.out.O eJ);have Ow:=bag (Ov.out.O eJ);have Oo:=bag (It.out.O eJ);clear t0 t1 t2 t3 t4 t5 t6 cl c1 c2 c3 c4 c5 eP fi fR mY;obtain⟨t0,t1,t2,t3,t4,t5,t6⟩:=bb.iI Iv.out;have EN:=cell_later eJ EN;go_wp2_with fail
       go_ret;exact⟨jS c9.out.symm,AA⟩
      | true =>
       have zL:=bag ab;clear ab;have mY:=PR W.am t.an gd gG _ Oq.out zJ.out;rw[zL.out]at mY;refine mY.mono ?_;rintro e xV ⟨rfl,eJ⟩;have Jn:=uB.trans (eJ.mono uB.size);have AA:=od.trans (Jn.mono od.size);have Iv:=bag (Iu.out.O eJ);have Ow:=bag (Ov.out.O eJ);have Oo:=bag (It.out.O eJ);clear t0 t1 t2 t3 t4 t5 t6 cl c1 c2 c3 c4 c5 eP fi fR mY;obtain⟨t0,t1,t2,t3,t4,t5,t6⟩:=bb.iI Iv.out;have EN:=cell_later eJ EN;go_wp2_with fail
       cases ay:bA t.K 1 10 with
       | false =>
        have c9:Hid (W.K=false):=ag.r (k:=k) (by rw[kv.out];exact bW) (by rw[m_.out,ay];simp);have DC:=bag ay;clear ay;refine(rK DC.out _).mono ?_;rintro e w' ⟨rfl,rfl⟩;go_wp2_with fail
        go_ret;exact⟨jS c9.out.symm,AA⟩
       | true =>
        have DC:=bag ay;clear ay;refine(rK DC.out _).mono ?_;rintro e w' ⟨rfl,rfl⟩;go_wp2_with fail
        cases ba:bA t.load 0 5 with
        | false =>
         have c9:Hid (W.K=false):=ag.r (k:=k) (by rw[kv.out];exact bW) (by rw[m_.out,ba];simp);have DD:=bag ba;clear ba;refine(rK DD.out _).mono ?_;rintro e w' ⟨rfl,rfl⟩;go_wp2_with fail
         go_ret;exact⟨jS c9.out.symm,AA⟩
        | true =>
         have DD:=bag ba;clear ba;refine(rK DD.out _).mono ?_;rintro e w' ⟨rfl,rfl⟩;go_wp2_with fail
         have EI:t.an.ok:=by
          obtain⟨i1,i2,i3,i4,i5,i6⟩:=aE.idx zJ.out (aE.K zL.out);obtain⟨g1,g2,g3,g4,_,_⟩:=aE.hB zJ.out;exact⟨b7.2 GE,b7.2 GE⟩
         obtain⟨v,DN⟩:∃ v,Hid ((eO.get l t.an).getD 0=v):=⟨_,bag rfl⟩;obtain⟨st,fE,eo,KD,vg,F4⟩:=ali Ow.out Tc.out S6.out t.an EI v DN.out;obtain⟨Hd,bm,He,f1,Hf,JC,QS,QT,Ez⟩:=F4;have aIn:0<=v/\v<=1:=by
          rw[<-DN.out,FX.out];split<;>simp
         have Y':=bag JC;have awA:=bag QS;have DJ:=bag QT;have Mv:=(Ez (Nat.le_of_lt anv)).1 AA;have Dx:=bag (Oo.out.of_heap ((Ez (B:=0) (a:=xV) (ba1 _)).2 _ GE));have Kl:vg.cell? ⟨wr.heap.size,0,none⟩=some (.int .i64 t.id):=(DJ.out _ (by simp;omega)).trans t0;have Bb:vg.cell? ⟨wr.heap.size,3,none⟩=some (.int .i64 t.an.x):=(DJ.out _ (by simp;omega)).trans t3;have aNB:vg.cell? ⟨wr.heap.size,4,none⟩=some (.int .i64 t.an.y):=(DJ.out _ (by simp;omega)).trans t4;have g1:=Hd 1;have g2:=bm 1;have g3:=He 1;have g4:=f1 1;have g5:=Hf 1;clear JC QS QT Ez Hd bm He f1 Hf;simp only[akj]at g1 g2 g3 g4 g5;cases uF:(W.kJ k).contains t.an with
         | true =>
          have rz:v=1:=by rw[<-DN.out,FX.out,uF];rfl
          subst rz;rw[show(1:Int)+1=2 from rfl]at g4 g5;have c9:Hid (W.K=false):=ag.r (k:=k) (by rw[kv.out];exact bW) (by rw[m_.out,uF];simp);clear uF
          go_region
          go_wp2_with fail
          go_ret;exact⟨jS c9.out.symm,below_drewN Mv 1⟩
         | false =>
          have rz:v=0:=by rw[<-DN.out,FX.out,uF];rfl
          subst rz;rw[show(0:Int)+1=1 from rfl]at g4 g5;have rP:Hid (∀ j,j<k+1->W.A6 j=true):=by
           intro j aB;by_cases ix:j<k
           .exact jM.out j ix
           .obtain rfl:j=k:=GE
            rw[m_.out,DB.out,fu.out,zL.out,DC.out,DD.out,uF];rfl
          have Y9:Hid (∀ c,eO.get (eO.put l nM t.an (0+1)) c=if(W.kJ (k+1)).contains c=true then some 1 else none):=by
           intro c;rw[eO.Eo,ahM.out,FX.out];by_cases Jt:c=t.an
           .simp[Jt]
           .rw[ban Jt];simp[Jt]
          have Zl:Hid (∀ e∈eO.put l nM t.an (0+1),e.1.ok):=eO.aeI Tc.out EI;have Y_:Hid (((eO.put l nM t.an (0+1)).map (·.1)).Nodup):=eO.MX S6.out _ _ _;clear uF EI
          go_region
          go_wp2_with fail
          go_roundw
          case rel=>exact⟨k+1,_,_,GE,by go_num,by rw[ahE.out],rP,Y'.out.drewN 1,Zl,Y_,Y9,Dx.out.drewN 1,below_drewN Mv 1⟩
          case measure=>simp[intOf];omega
   .by_cases fJ:t.O=2
    .have DK:=bag fJ;rw[fJ]at nu;clear sj fJ;have Ou:=bag (λ V:World=>apK V);have Qx:ag.gT 2=20:=rfl;have QA:ag.zd 2=0:=rfl;rw[DK.out,Qx,QA]at cA;have m_:=bag cA;clear Qx QA cA;have Zj:Hid (wr.alloc (.cells #[.int .i64 t.id,.int .i64 t.H,.int .i64 2,.int .i64 t.an.x,.int .i64 t.an.y,.int .i64 t.K,.int .i64 t.load] 68)=a8):=by rw[<-OC.out,DK.out];rfl
     go_wp2_with fail
     rw[Zj.out];refine(Ou.out _).mono ?_;rintro e dn ⟨rfl,bQ⟩;have yW:=dx.trans (bQ.mono dx.size);have eD:=nL dn (.cells #[.int .i64 20,.int .i64 2,.int .i64 4,.int .i64 12] 193);have Es:=aO.new dn [.int .i64 20,.int .i64 2,.int .i64 4,.int .i64 12] 193 (0,0);obtain⟨w3,Iz⟩:∃ w3,Hid (dn.alloc (.cells #[.int .i64 20,.int .i64 2,.int .i64 4,.int .i64 12] 193)=w3):=⟨_,bag rfl⟩;rw[Iz.out]at eD;have Es:aO w3 dn.heap.size [.int .i64 20,.int .i64 2,.int .i64 4,.int .i64 12] 193 (0,0):=by rw[<-Iz.out];exact Es
     have EN:w3.cell? ⟨dn.heap.size,0,none⟩=some (.int .i64 20):=Es.cell 0;have uB:=yW.trans (eD.mono yW.size);have Iu:=bag ((FV.out.O bQ).O eD);have Ov:=bag (mZ.out.O uB);have It:=bag (Li.out.O uB);have Jr:=od.trans (uB.mono od.size);have Oq:=bag (ahD.out.be Jr);obtain⟨t0,t1,t2,t3,t4,t5,t6⟩:=bb.iI ((FV.out.O bQ));rw[DK.out]at t2;clear cl c1 c2 c3 c4 c5 eP fi fR;obtain⟨cl,c1,c2,c3,c4,c5,eP,fi,fR⟩:=ag.V (Li.out.O yW);rw[l9.out]at c3;rw[kv.out]at eP;have amz:wr.heap.size<dn.heap.size:=by have:=bQ.size;have:=FV.out.lt;omega
     have amA:w.heap.size<dn.heap.size:=by have:=adz;omega
     go_wp2_with fail
     rw[Iz.out];clear t0 t1 t2 t3 t4 t5 t6 cl c1 c2 c3 c4 c5 eP fi fR;obtain⟨t0,t1,t2,t3,t4,t5,t6⟩:=bb.iI Iu.out;obtain⟨cl,c1,c2,c3,c4,c5,eP,fi,fR⟩:=ag.V It.out;rw[l9.out]at c3;rw[kv.out]at eP;rw[DK.out]at t2;clear bQ Es eD yW;cases aN:bA t.id jK J' with
     | false =>
      have c9:Hid (W.K=false):=ag.r (k:=k) (by rw[kv.out];exact bW) (by rw[m_.out,aN];simp);have DB:=bag aN;clear aN;refine(rK DB.out _).mono ?_;rintro e w' ⟨rfl,rfl⟩;go_wp2_with fail
      go_ret;exact⟨jS c9.out.symm,Jr⟩
     | true =>
      have DB:=bag aN;clear aN;refine(rK DB.out _).mono ?_;rintro e w' ⟨rfl,rfl⟩;go_wp2_with fail
      cases aa:bA t.H 0 ((l5:Int)-1)with
      | false =>
       have c9:Hid (W.K=false):=ag.r (k:=k) (by rw[kv.out];exact bW) (by rw[m_.out,aa];simp);have fu:=bag aa;clear aa;refine(rK fu.out _).mono ?_;rintro e w' ⟨rfl,rfl⟩;go_wp2_with fail
       go_ret;exact⟨jS c9.out.symm,Jr⟩
      | true =>
       have fu:=bag aa;clear aa;refine(rK fu.out _).mono ?_;rintro e w' ⟨rfl,rfl⟩;go_wp2_with fail
       cases ab:W.am.ground t.an with
       | false =>
        have c9:Hid (W.K=false):=ag.r (k:=k) (by rw[kv.out];exact bW) (by rw[m_.out,ab];simp);have zL:=bag ab;clear ab;have mY:=PR W.am t.an gd gG _ Oq.out zJ.out;rw[zL.out]at mY;refine mY.mono ?_;rintro e xV ⟨rfl,eJ⟩;have Jn:=uB.trans (eJ.mono uB.size);have AA:=od.trans (Jn.mono od.size);have Iv:=bag (Iu.out.O eJ);have Ow:=bag (Ov.out.O eJ);have Oo:=bag (It.out.O eJ);clear t0 t1 t2 t3 t4 t5 t6 cl c1 c2 c3 c4 c5 eP fi fR mY;obtain⟨t0,t1,t2,t3,t4,t5,t6⟩:=bb.iI Iv.out;have EN:=cell_later eJ EN;go_wp2_with fail
        go_ret;exact⟨jS c9.out.symm,AA⟩
       | true =>
        have zL:=bag ab;clear ab;have mY:=PR W.am t.an gd gG _ Oq.out zJ.out;rw[zL.out]at mY;refine mY.mono ?_;rintro e xV ⟨rfl,eJ⟩;have Jn:=uB.trans (eJ.mono uB.size);have AA:=od.trans (Jn.mono od.size);have Iv:=bag (Iu.out.O eJ);have Ow:=bag (Ov.out.O eJ);have Oo:=bag (It.out.O eJ);clear t0 t1 t2 t3 t4 t5 t6 cl c1 c2 c3 c4 c5 eP fi fR mY;obtain⟨t0,t1,t2,t3,t4,t5,t6⟩:=bb.iI Iv.out;have EN:=cell_later eJ EN;go_wp2_with fail
        cases ay:bA t.K 1 20 with
        | false =>
         have c9:Hid (W.K=false):=ag.r (k:=k) (by rw[kv.out];exact bW) (by rw[m_.out,ay];simp);have DC:=bag ay;clear ay;refine(rK DC.out _).mono ?_;rintro e w' ⟨rfl,rfl⟩;go_wp2_with fail
         go_ret;exact⟨jS c9.out.symm,AA⟩
        | true =>
         have DC:=bag ay;clear ay;refine(rK DC.out _).mono ?_;rintro e w' ⟨rfl,rfl⟩;go_wp2_with fail
         cases ba:bA t.load 0 0 with
         | false =>
          have c9:Hid (W.K=false):=ag.r (k:=k) (by rw[kv.out];exact bW) (by rw[m_.out,ba];simp);have DD:=bag ba;clear ba;refine(rK DD.out _).mono ?_;rintro e w' ⟨rfl,rfl⟩;go_wp2_with fail
          go_ret;exact⟨jS c9.out.symm,AA⟩
         | true =>
          have DD:=bag ba;clear ba;refine(rK DD.out _).mono ?_;rintro e w' ⟨rfl,rfl⟩;go_wp2_with fail
          have EI:t.an.ok:=by
           obtain⟨i1,i2,i3,i4,i5,i6⟩:=aE.idx zJ.out (aE.K zL.out);obtain⟨g1,g2,g3,g4,_,_⟩:=aE.hB zJ.out;exact⟨b7.2 GE,b7.2 GE⟩
          obtain⟨v,DN⟩:∃ v,Hid ((eO.get l t.an).getD 0=v):=⟨_,bag rfl⟩;obtain⟨st,fE,eo,KD,vg,F4⟩:=ali Ow.out Tc.out S6.out t.an EI v DN.out;obtain⟨Hd,bm,He,f1,Hf,JC,QS,QT,Ez⟩:=F4;have aIn:0<=v/\v<=1:=by
           rw[<-DN.out,FX.out];split<;>simp
          have Y':=bag JC;have awA:=bag QS;have DJ:=bag QT;have Mv:=(Ez (Nat.le_of_lt anv)).1 AA;have Dx:=bag (Oo.out.of_heap ((Ez (B:=0) (a:=xV) (ba1 _)).2 _ GE));have Kl:vg.cell? ⟨wr.heap.size,0,none⟩=some (.int .i64 t.id):=(DJ.out _ (by simp;omega)).trans t0;have Bb:vg.cell? ⟨wr.heap.size,3,none⟩=some (.int .i64 t.an.x):=(DJ.out _ (by simp;omega)).trans t3;have aNB:vg.cell? ⟨wr.heap.size,4,none⟩=some (.int .i64 t.an.y):=(DJ.out _ (by simp;omega)).trans t4;have g1:=Hd 1;have g2:=bm 1;have g3:=He 1;have g4:=f1 1;have g5:=Hf 1;clear JC QS QT Ez Hd bm He f1 Hf;simp only[akj]at g1 g2 g3 g4 g5;cases uF:(W.kJ k).contains t.an with
          | true =>
           have rz:v=1:=by rw[<-DN.out,FX.out,uF];rfl
           subst rz;rw[show(1:Int)+1=2 from rfl]at g4 g5;have c9:Hid (W.K=false):=ag.r (k:=k) (by rw[kv.out];exact bW) (by rw[m_.out,uF];simp);clear uF
           go_region
           go_wp2_with fail
           go_ret;exact⟨jS c9.out.symm,below_drewN Mv 1⟩
          | false =>
           have rz:v=0:=by rw[<-DN.out,FX.out,uF];rfl
           subst rz;rw[show(0:Int)+1=1 from rfl]at g4 g5;have rP:Hid (∀ j,j<k+1->W.A6 j=true):=by
            intro j aB;by_cases ix:j<k
            .exact jM.out j ix
            .obtain rfl:j=k:=GE
             rw[m_.out,DB.out,fu.out,zL.out,DC.out,DD.out,uF];rfl
           have Y9:Hid (∀ c,eO.get (eO.put l nM t.an (0+1)) c=if(W.kJ (k+1)).contains c=true then some 1 else none):=by
            intro c;rw[eO.Eo,ahM.out,FX.out];by_cases Jt:c=t.an
            .simp[Jt]
            .rw[ban Jt];simp[Jt]
           have Zl:Hid (∀ e∈eO.put l nM t.an (0+1),e.1.ok):=eO.aeI Tc.out EI;have Y_:Hid (((eO.put l nM t.an (0+1)).map (·.1)).Nodup):=eO.MX S6.out _ _ _;clear uF EI
           go_region
           go_wp2_with fail
           go_roundw
           case rel=>exact⟨k+1,_,_,GE,by go_num,by rw[ahE.out],rP,Y'.out.drewN 1,Zl,Y_,Y9,Dx.out.drewN 1,below_drewN Mv 1⟩
           case measure=>simp[intOf];omega
    .have Qu:bA t.O 1 2=false:=sw GE;have c9:Hid (W.K=false):=ag.r (k:=k) (by rw[kv.out];exact bW) (by rw[cA,Qu];rfl);have Ou:=bag (λ V:World=>apL t.O V Qu);have amQ:(t.O == 1)=false:=by simpa using sj
     clear cA Qu sj fJ;go_wp2_with fail
     rw[OC.out];refine(Ou.out _).mono ?_;rintro e dn ⟨rfl,bQ⟩;have yW:=dx.trans (bQ.mono dx.size);obtain⟨t0,t1,t2,t3,t4,t5,t6⟩:=bb.iI ((FV.out.O bQ));clear cl c1 c2 c3 c4 c5 eP fi fR;obtain⟨cl,c1,c2,c3,c4,c5,eP,fi,fR⟩:=ag.V (Li.out.O yW);have amz:wr.heap.size<dn.heap.size:=by have:=bQ.size;have:=FV.out.lt;omega
     have amA:w.heap.size<dn.heap.size:=by have:=adz;omega
     go_wp2_with fail
     go_ret;exact⟨jS c9.out.symm,(od.trans (yW.mono od.size)).trans ((nL _ _).mono GE)⟩
  .obtain rfl:k=dj:=GE
   have eA:∀ j,j<W.ah.length->W.A6 j=true:=λ j aB=>jM.out j (by rw[kv.out]at aB;exact aB);have ss:W.K=(bA W.next 1 1000000 && bA W.db 0 1000000):=by
    unfold ag.K;rw[ba8.2 (λ j aB=>eA j (baW.1 aB)),bdi]
   have DL:=bag ss;clear eA ss p_;cases aa:bA W.next 1 1000000 with
   | false =>
    have H1:=bag aa;clear aa;go_wp2_with fail
    refine(rK H1.out _).mono ?_;rintro e w' ⟨rfl,rfl⟩;go_wp2_with fail
    go_ret;exact⟨jS (by rw[DL.out,H1.out];rfl),od⟩
   | true =>
    have yZ:=λ V=>Yc W.db 0 1000000 V;have H1:=bag aa;rw[H1.out,bdi]at DL;clear aa;generalize bA W.db 0 1000000=r2 at *
    go_wp2_with fail
    refine(rK H1.out _).mono ?_;rintro e w' ⟨rfl,rfl⟩;go_wp2_with fail
    refine(yZ _).mono ?_;rintro e w' ⟨rfl,rfl⟩;go_wp2_with fail
    go_ret;exact⟨jS DL.out.symm,od⟩
end
theorem Gz(a:ag.cS)(W:ag)(w:World)(bk:ag.fd w a W):
  Calls prog 95 #[.agg (ag.cells a W).toArray] w λ e w'=>e=.returned (.int .i64 W.br)/\Below w.heap.size w w':=by
 have wh:=λ aN hC V (h:ag.fd V a W)=>aMC a W V h aN hC;have VK:=λ V (h:ag.fd V a W)=>aK1 a W V h;have ss:=λ aN hC Aw V (h:ag.fd V a W)=>aPR a W V h aN hC Aw;obtain⟨gd,hT,hU,gW,gl,gG,ho,hZ,hD,gY⟩:=a;show Calls _ _ #[.agg #[.int .i64 W.am.O,.int .i64 W.am.high,.slice gd W.am.G.length gG,.slice hT W.aT.length ho,.slice hU W.bl.length hZ,.slice gW W.bE.length hD,.slice gl W.ah.length gY,.int .i64 W.next,.int .i64 W.db]] _ _;have du:=nL w (.cells (ag.cells ⟨gd,hT,hU,gW,gl,gG,ho,hZ,hD,gY⟩ W).toArray 28);have k6:=bag (aO.new w (ag.cells ⟨gd,hT,hU,gW,gl,gG,ho,hZ,hD,gY⟩ W) 28 (0,0));have o9:=bag (bk.be du);obtain⟨w0,k8⟩:∃ w0,Hid (w.alloc (.cells (ag.cells ⟨gd,hT,hU,gW,gl,gG,ho,hZ,hD,gY⟩ W).toArray 28)=w0):=⟨_,bag rfl⟩;rw[k8.out]at du o9;have k6:Hid (aO w0 w.heap.size (ag.cells ⟨gd,hT,hU,gW,gl,gG,ho,hZ,hD,gY⟩ W) 28 (0,0)):=by rw[<-k8.out];exact k6
 have hf:=alz W.am gd gG w0 o9.out.P;have rQ:Hid (w.alloc (.cells #[.int .i64 W.am.O,.int .i64 W.am.high,.slice gd W.am.G.length gG,.slice hT W.aT.length ho,.slice hU W.bl.length hZ,.slice gW W.bE.length hD,.slice gl W.ah.length gY,.int .i64 W.next,.int .i64 W.db] 28)=w0):=by rw[<-k8.out];rfl
 obtain⟨cl,c1,c2,c3,c4,c5,eP,fi,fR⟩:=ag.V k6.out;clear bk;by_cases yY:W.am.br=0
 .by_cases Qw:8<W.aT.length\/100<W.ah.length
  .rw[ag.aje yY Qw];rw[yY]at hf;have awn:=bag Qw;clear Qw yY wh VK ss;generalize W.am.G.length=Rr at *
   generalize W.aT.length=l5 at *
   generalize W.bl.length=ns at *
   generalize W.bE.length=nm at *
   generalize W.ah.length=dj at *
   go_enter func95,ntmps95;go_wp2_with fail
   rw[rQ.out];refine hf.mono ?_;rintro e dn ⟨rfl,bQ⟩;have d3:=cell_later bQ c3;have d6:=cell_later bQ eP;have key:decide ((8:Int)<(l5:Int))=true\/(decide ((8:Int)<(l5:Int))=false/\decide ((100:Int)<(dj:Int))=true):=by
    have:=awn.out;simp;omega
   clear cl c1 c2 c3 c4 c5 eP fi fR;rcases key with h|⟨h,ab⟩
   all_goals
    go_wp2_with fail
    go_ret;exact⟨Z,du.trans (bQ.mono du.size)⟩
  .rw[ag.aaF yY Qw];have hC:W.aT.length<=8:=GE
   have Aw:W.ah.length<=100:=GE
   have wh:=wh yY hC;have ss:=ss yY hC Aw;rw[yY]at hf;have g1:decide ((8:Int)<(W.aT.length:Int))=false:=by simp;omega
   have g2:decide ((100:Int)<(W.ah.length:Int))=false:=by simp;omega
   have Ix:=bag (λ V (h:Below w0.heap.size w0 V)=>wh V (o9.out.be h));have Ll:=bag (λ V (h:Below w0.heap.size w0 V)=>VK V (o9.out.be h));have DL:=bag (λ V (h:Below w0.heap.size w0 V)=>ss V (o9.out.be h));rw[ag.aAn]at Ix Ll DL;have Ix:Hid (∀ V,Below w0.heap.size w0 V->Calls prog 125 #[.agg #[.int .i64 W.am.O,.int .i64 W.am.high,.slice gd W.am.G.length gG,.slice hT W.aT.length ho,.slice hU W.bl.length hZ,.slice gW W.bE.length hD,.slice gl W.ah.length gY,.int .i64 W.next,.int .i64 W.db]] V λ e w'=>e=.returned (.bool W.U)/\Below V.heap.size V w'):=Ix;have Ll:Hid (∀ V,Below w0.heap.size w0 V->Calls prog 126 #[.agg #[.int .i64 W.am.O,.int .i64 W.am.high,.slice gd W.am.G.length gG,.slice hT W.aT.length ho,.slice hU W.bl.length hZ,.slice gW W.bE.length hD,.slice gl W.ah.length gY,.int .i64 W.next,.int .i64 W.db]] V λ e w'=>e=.returned (.bool W.F)/\Below V.heap.size V w'):=Ll;have DL:Hid (∀ V,Below w0.heap.size w0 V->Calls prog 127 #[.agg #[.int .i64 W.am.O,.int .i64 W.am.high,.slice gd W.am.G.length gG,.slice hT W.aT.length ho,.slice hU W.bl.length hZ,.slice gW W.bE.length hD,.slice gl W.ah.length gY,.int .i64 W.next,.int .i64 W.db]] V λ e w'=>e=.returned (.bool W.K)/\Below V.heap.size V w'):=DL;clear Qw yY wh VK ss hC Aw;generalize W.U=r1 at *
   generalize W.F=r2 at *
   generalize W.K=Bb at *
   generalize W.am.G.length=Rr at *
   generalize W.aT.length=l5 at *
   generalize W.bl.length=ns at *
   generalize W.bE.length=nm at *
   generalize W.ah.length=dj at *
   have qV:=hf;clear hf;cases r1 with
   | false =>
    go_enter func95,ntmps95;go_wp2_with fail
    rw[rQ.out];refine qV.mono ?_;rintro e dn ⟨rfl,bQ⟩;have cl:=cell_later bQ cl;have c1:=cell_later bQ c1;have c2:=cell_later bQ c2;have c3:=cell_later bQ c3;have c4:=cell_later bQ c4;have c5:=cell_later bQ c5;have eP:=cell_later bQ eP;have fi:=cell_later bQ fi;have fR:=cell_later bQ fR;go_wp2_with fail
    refine(Ix.out _ bQ).mono ?_;rintro e w3 ⟨rfl,eD⟩;go_wp2_with fail
    go_ret;exact⟨Z,du.trans ((qH bQ eD).mono du.size)⟩
   | true =>
    cases r2 with
    | false =>
     go_enter func95,ntmps95;go_wp2_with fail
     rw[rQ.out];refine qV.mono ?_;rintro e dn ⟨rfl,bQ⟩;have cl:=cell_later bQ cl;have c1:=cell_later bQ c1;have c2:=cell_later bQ c2;have c3:=cell_later bQ c3;have c4:=cell_later bQ c4;have c5:=cell_later bQ c5;have eP:=cell_later bQ eP;have fi:=cell_later bQ fi;have fR:=cell_later bQ fR;go_wp2_with fail
     refine(Ix.out _ bQ).mono ?_;rintro e w3 ⟨rfl,eD⟩;have tr:=qH bQ eD;have cl:=cell_later eD cl;have c1:=cell_later eD c1;have c2:=cell_later eD c2;have c3:=cell_later eD c3;have c4:=cell_later eD c4;have c5:=cell_later eD c5;have eP:=cell_later eD eP;have fi:=cell_later eD fi;have fR:=cell_later eD fR;go_wp2_with fail
     refine(Ll.out _ tr).mono ?_;rintro e xV ⟨rfl,eJ⟩;go_wp2_with fail
     go_ret;exact⟨Z,du.trans ((qH tr eJ).mono du.size)⟩
    | true =>
     cases Bb with
     | false =>
      go_enter func95,ntmps95;go_wp2_with fail
      rw[rQ.out];refine qV.mono ?_;rintro e dn ⟨rfl,bQ⟩;have cl:=cell_later bQ cl;have c1:=cell_later bQ c1;have c2:=cell_later bQ c2;have c3:=cell_later bQ c3;have c4:=cell_later bQ c4;have c5:=cell_later bQ c5;have eP:=cell_later bQ eP;have fi:=cell_later bQ fi;have fR:=cell_later bQ fR;go_wp2_with fail
      refine(Ix.out _ bQ).mono ?_;rintro e w3 ⟨rfl,eD⟩;have tr:=qH bQ eD;have cl:=cell_later eD cl;have c1:=cell_later eD c1;have c2:=cell_later eD c2;have c3:=cell_later eD c3;have c4:=cell_later eD c4;have c5:=cell_later eD c5;have eP:=cell_later eD eP;have fi:=cell_later eD fi;have fR:=cell_later eD fR;go_wp2_with fail
      refine(Ll.out _ tr).mono ?_;rintro e xV ⟨rfl,eJ⟩;have we:=qH tr eJ;have cl:=cell_later eJ cl;have c1:=cell_later eJ c1;have c2:=cell_later eJ c2;have c3:=cell_later eJ c3;have c4:=cell_later eJ c4;have c5:=cell_later eJ c5;have eP:=cell_later eJ eP;have fi:=cell_later eJ fi;have fR:=cell_later eJ fR;go_wp2_with fail
      refine(DL.out _ we).mono ?_;rintro e tO ⟨rfl,qN⟩;go_wp2_with fail
      go_ret;exact⟨Z,du.trans ((qH we qN).mono du.size)⟩
     | true =>
      go_enter func95,ntmps95;go_wp2_with fail
      rw[rQ.out];refine qV.mono ?_;rintro e dn ⟨rfl,bQ⟩;have cl:=cell_later bQ cl;have c1:=cell_later bQ c1;have c2:=cell_later bQ c2;have c3:=cell_later bQ c3;have c4:=cell_later bQ c4;have c5:=cell_later bQ c5;have eP:=cell_later bQ eP;have fi:=cell_later bQ fi;have fR:=cell_later bQ fR;go_wp2_with fail
      refine(Ix.out _ bQ).mono ?_;rintro e w3 ⟨rfl,eD⟩;have tr:=qH bQ eD;have cl:=cell_later eD cl;have c1:=cell_later eD c1;have c2:=cell_later eD c2;have c3:=cell_later eD c3;have c4:=cell_later eD c4;have c5:=cell_later eD c5;have eP:=cell_later eD eP;have fi:=cell_later eD fi;have fR:=cell_later eD fR;go_wp2_with fail
      refine(Ll.out _ tr).mono ?_;rintro e xV ⟨rfl,eJ⟩;have we:=qH tr eJ;have cl:=cell_later eJ cl;have c1:=cell_later eJ c1;have c2:=cell_later eJ c2;have c3:=cell_later eJ c3;have c4:=cell_later eJ c4;have c5:=cell_later eJ c5;have eP:=cell_later eJ eP;have fi:=cell_later eJ fi;have fR:=cell_later eJ fR;go_wp2_with fail
      refine(DL.out _ we).mono ?_;rintro e tO ⟨rfl,qN⟩;go_wp2_with fail
      go_ret;exact⟨Z,du.trans ((qH we qN).mono du.size)⟩
 .rw[ag.ajd yY];have hd:(W.am.br == 0)=false:=by simpa using yY
  have ED:(W.am.br != 0)=true:=by simpa using yY
  clear yY wh VK ss;generalize W.am.br=k at *
  go_enter func95,ntmps95;go_wp2_with fail
  rw[rQ.out];refine hf.mono ?_;rintro e dn ⟨rfl,bQ⟩;go_wp2_with fail
  go_ret;exact⟨Z,du.trans (bQ.mono du.size)⟩
end Go.Proofs.YtooonebcoaleiaaGreat
