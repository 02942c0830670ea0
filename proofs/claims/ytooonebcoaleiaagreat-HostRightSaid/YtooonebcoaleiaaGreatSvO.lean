import Derived.Test.YtooonebcoaleiaaGreatShelf
set_option linter.all false
set_option maxRecDepth 100000
set_option maxHeartbeats 4000000
open Go.RowKit
namespace Go.Proofs.YtooonebcoaleiaaGreat
open Tryz
abbrev bbg:=@UInt8.toNat_ofNat'
abbrev bbO:=@Nat.mod_two_eq_zero_or_one
abbrev bci:=@List.cons.injEq
abbrev bck:=@Nat.pow_le_pow_right
abbrev bcx:=@Nat.two_pow_pos
abbrev bcF:=@Go.World.cell?_alloc_new
abbrev bcT:=@List.take_append_getElem
abbrev bdb:=@Go.run_convert_bytes_back
abbrev bdR:=@Nat.pow_succ
abbrev bdX:=@Go.Lib.extract_data
abbrev bdY:=@Go.Lib.cell_of_heap
abbrev beI:=@Go.bits_nat
abbrev be0:=@Go.Oper.upon_value
abbrev bfb:=@Option.map_eq_some_iff
abbrev bff:=@List.getElem_singleton
abbrev bfh:=@List.drop_eq_nil_of_le
abbrev bfk:=@List.singleton_append
abbrev bfB:=@Nat.and_one_is_mod
abbrev bfF:=@BitVec.xor_allOnes
section
variable{l:List aS}
theorem atb{W:ag}(h:W.br=0):rE W []=W/\Bf W []=[]:=by
 have c:=aai (l:=[]) h GP;have b:=XH c;have f:hL W []=List.replicate W.ah.length 0:=by unfold hL;rw[c];rfl
 have e:EJ W []=W.ah:=by
  apply bbB;intro i;cases a:W.ah[i]? with
  | none =>
   have:=List.getElem?_eq_none_iff.1 a;rw[baX (by rw[V1];exact this)]
  | some t =>
   rw[V0 a,f];have:(List.replicate W.ah.length (0:Int)).getD i 0=0:=by
    rw[baa,bbn];split<;>rfl
   rw[this,Int.sub_zero]
 have d:∀ t∈W.ah,0<t.K:=λ t a=>by have:=(b.hB.each a).2.2.K;omega
 constructor
 .rw[b.bk,e,bfw.2 λ t a=>baG (d t a)]
 .rw[b.aZ,e,List.filter_eq_nil_iff.2 λ t a=>by simp[d t a]];rfl
def as3{f:aE}{T:List bb}:∀ k,lJ f [] T k=(T,[])
 | 0=>rfl
 | k+1=>Kw (as3 k) (as5 (by show fK _ ([]:List ed)<0;unfold fK;simp))
def aKN{W:ag}(h:W.br=0):rB W []=W/\uU W []=[]:=by
 obtain⟨c,a,b⟩:=WK (W:=W) (l:=[]) h GP;rw[a,b];unfold ag.M;rw[as3];exact⟨Z,Z⟩
def aP0{W:ag}(h:ji W l=0):(qY W l).db=W.db:=by
 obtain⟨d,e,f,g1,g2,g3⟩:=afU h;have a:(xR W l).db=W.db:=by unfold xR;rw[(XH d).bk]
 have b:(xS W l).db=(xR W l).db:=by unfold xS;rw[(aeG e).2.2.2.1]
 have c:(qY W l).db=(xS W l).db:=by unfold qY;rw[(aBv f).2.2.1];exact(aJs g2 _).db
 rw[c,b,a]
def aP1{W:ag}(h:ji W l=0):(oU W l).br=0/\(oU W l).db=W.db+1/\HO (Fb W l)=true/\HO (Fc W l)=true:=by
 obtain⟨i,j,a,k⟩:=NH h;obtain⟨b,c,m,g1,g2,g3⟩:=afU h;obtain⟨d,e,f,o⟩:=afW h;have n:=aP0 h;have g:=(Good.G a).db;rw[d,e,f];refine⟨Good.br {g3 with db:=⟨?_,?_⟩},?_,(XH b).sorted,(aeG c).2.2.1⟩
 .show 0<=(qY W l).db+1;omega
 .show(qY W l).db+1<=1000000;omega
 .show(qY W l).db+1=_;omega
def qp:List aS:=[⟨0,3,1,⟨2,0⟩,0⟩]
def afR:ag:=⟨⟨3,1,[0,0,3]⟩,[⟨0,0⟩],[20],[0,0,8],[⟨1,0,1,⟨1,0⟩,10,1⟩],2,1⟩
theorem afV:ji mO qp=0/\oU mO qp=afR/\Fb mO qp=[]/\Fc mO qp=[]/\HR mO qp=[true]:=by
 have e:mO.br=0:=by decide +kernel
 have a:jT mO qp qp.length=[]:=by decide +kernel
 have c:j9 mO qp qp.length=[]:=by decide +kernel
 have b:kq mO qp qp.length=[⟨1,1,⟨2,0⟩,0⟩]:=by decide +kernel
 have d:ji mO qp=0:=by decide +kernel
 obtain⟨k,o,p,q⟩:=afW d;obtain⟨l,m⟩:=atb e;have f:xR mO qp=mO:=by unfold xR;rw[a];exact l
 obtain⟨i,j⟩:=aKN e;have g:xS mO qp=mO:=by unfold xS;rw[f,c];exact i
 have n:qY mO qp=mO.L [⟨1,1,⟨2,0⟩,0⟩]:=by unfold qY;rw[g,b]
 have h:mO.L [⟨1,1,⟨2,0⟩,0⟩]={afR with db:=0}:=by decide +kernel
 refine⟨d,?_,?_,?_,?_⟩
 .rw[k,n,h];rfl
 .rw[o,a];exact m
 .rw[p,f,c];exact j
 .rw[q,g,b];decide +kernel
end
structure gV where
 a:Option Addr
 n:Nat
 c:Nat
instance:Inhabited gV:=⟨⟨none,0,0⟩⟩
def nw:τ gV:=τ.flat 1 (λ v=> [.slice v.a v.n v.c]) (λ _=>True) (λ _ u=>∃ a n c,u=.slice a n c) (λ _=>rfl) (by intro a u b;simp at b;subst b;rfl) (by
 intro a j u b;cases j with
 | zero=>simp at b;exact⟨_,_,_,b.symm⟩
 | succ j=>simp at b)
def Mx{w:World}{cs:List Value}{a:gV}(h:nw.bv w cs a):cs=[.slice a.a a.n a.c]:=bcs (show cs=[.slice a.a a.n a.c]/\True from h)
def afl:∀(j:Nat) u,(Value.slice none 0 0).cells[j]? =some u->nw.raw j u:=by
 intro j u a;have a:(#[(.slice none 0 0:Value)]:Array Value)[j]? =some u:=a
 match j,a with
 | 0,a=>exact⟨_,_,_,(bae a).symm⟩
 | j+1,a=>simp at a
end Go.Proofs.YtooonebcoaleiaaGreat
namespace Go.Proofs.YtooonebcoaleiaaGreat.Mark
open Tryz
open Go.Proofs.YtooonebcoaleiaaGreat.fg

abbrev dT:=BitVec 64
abbrev W:=BitVec 64
def xs(k:Nat)(x:dT):dT:=x ^^^ x >>> k
def c1:dT:=13787848793156543929#64
def c2:dT:=10723151780598845931#64
def vY:dT:=11400714819323198485#64
def mix(n:dT):dT:=xs 31 (xs 27 (xs 30 (n+vY)*c1)*c2)
def dq(k:Nat)(x:dT):dT:=xs (2*k) (xs k x)
def Nj(x y:dT):dT:=y*(2#64-x*y)
def el(x:dT):dT:=Nj x (Nj x (Nj x (Nj x (Nj x (Nj x x)))))
def back(n:dT):dT:=dq 30 (dq 27 (dq 31 n*el c2)*el c1)-vY
section
variable(f:dT->dT)
def XJ(m n:dT):dT:=m ^^^ f n
def B'(l:List dT)(m:dT):dT:=l.foldl (XJ f) m
def Kb(l:List dT):dT:=B' f l 0#64
def ayw(l:List dT)(x:dT)(m:dT):B' f (l++ [x]) m=XJ f (B' f l m) x:=by unfold B';rw[bbZ];rfl
end
end Go.Proofs.YtooonebcoaleiaaGreat.Mark
namespace Go.Proofs.YtooonebcoaleiaaGreat.Mark
open Tryz
open Go.RowKit Go.Proofs.YtooonebcoaleiaaGreat.fg

def RE{a b:Int}(h:a=b):Ending.returned (.int .u64 a)=.returned (.int .u64 b):=by rw[h]

def agu(x:Int):IntKind.u64.wrap x=U (BitVec.ofInt 64 x):=by
 refine UJ ?_ ?_ (aLW x)
 .rw[bbr];omega
 .rw[bbr];omega
def ail(a:dT):IntKind.u64.wrap (U a+11400714819323198485)=U (a+vY):=by
 rw[agu,aLO,zf];rfl
def aLd(a:dT):IntKind.u64.wrap (U a*13787848793156543929)=U (a*c1):=by
 rw[agu,aq1,zf];rfl
def aLe(a:dT):IntKind.u64.wrap (U a*10723151780598845931)=U (a*c2):=by
 rw[agu,aq1,zf];rfl
def agz(k:Nat)(a:dT):bits BinOp.xor IntKind.u64 (U a) (U a / 2 ^ k)=U (xs k a):=by
 refine UJ (aah _ _ _) (aag _ _ _) ?_;rw[aeV,aq2 (n:=64) (U a) k (Gi a) (by have:=ayf a;omega),zf];rfl
def aun(a:dT):bits BinOp.xor IntKind.u64 (U a) (U a / 1073741824)=U (xs 30 a):=agz 30 a
def aum(a:dT):bits BinOp.xor IntKind.u64 (U a) (U a / 134217728)=U (xs 27 a):=agz 27 a
def auo(a:dT):bits BinOp.xor IntKind.u64 (U a) (U a / 2147483648)=U (xs 31 a):=agz 31 a
def aeJ(x:Int)(n:dT)(hx:x=U n)(w:World):
  Calls prog 157 #[.int .u64 x] w λe w'=>e=.returned (.int .u64 (U (mix n)))/\w=w':=by
 subst hx;go_enter func157,ntmps157;go_wp2
 go_ret;refine⟨RE ?_,Z⟩;rw[ail,aun,aLd,aum,aLe,auo];rfl

end Go.Proofs.YtooonebcoaleiaaGreat.Mark
namespace Go.Proofs.YtooonebcoaleiaaGreat.Mark
open Tryz
open Go.RowKit Go.Proofs.YtooonebcoaleiaaGreat.fg


def RU(x y:Int)(m n:dT)(hx:x=U m)(aP:y=U n)(w:World):
  Calls prog 158 #[.int .u64 x,.int .u64 y] w λe w'=>e=.returned (.int .u64 (U (XJ mix m n)))/\w=w':=by
 subst hx aP;go_enter func158,ntmps158;go_wp2_with (go_at_call 157;refine(aeJ _ n rfl _).mono ?_;rintro e w' ⟨rfl,rfl⟩)
 go_ret;exact⟨RE (by refine UJ (aah _ _ _) (aag _ _ _) ?_;rw[aeV,zf,zf];rfl),Z⟩
def vI(w:World)(a:Option Addr)(n:Nat)(zs:List dT):Prop :=
 n=zs.length/\n<=9223372036854775807/\(zs=[]\/∃ b c,a=some ⟨b,c,none⟩/\∀ i (h:i<zs.length),w.cell? ⟨b,c+i,none⟩=some (.int .u64 (U zs[i])))

def IN(a:List (List dT))(m:dT):dT:=a.foldl (λm l=>B' mix l m) m
def ayz(a:List (List dT))(l:List dT)(m:dT):IN (a++ [l]) m=B' mix l (IN a m):=by unfold IN;rw[bbZ];rfl
def ate{a:Type}(l:List a)(k:Nat)(h:k<l.length):l.take (k+1)=l.take k++ [l[k]]:=baI h

theorem ayx(b c:Nat)(vs:List (Option Addr×Nat×Nat))(tU:List (List dT))(w:World)(hn:vs.length=tU.length)(hc:c<=100)(hcv:vs.length<=100)
  (lh:∀ i (h:i<vs.length),w.cell? ⟨b,i,none⟩=some (.slice vs[i].1 vs[i].2.1 vs[i].2.2))(uL:∀ i (h:i<vs.length) (dt:i<tU.length),vI w vs[i].1 vs[i].2.1 tU[i]):
  Calls prog 129 #[.slice (some ⟨b,0,none⟩) vs.length c] w λe w'=>e=.returned (.int .u64 (U (IN tU 0#64)))/\w=w':=by
 obtain⟨N,gx⟩:∃ N,Hid (N=vs.length):=⟨_,bag rfl⟩;have DA:=bag lh;have gO:=bag uL;have qE:=bag hn;rw[<-gx.out]at hcv ⊢;clear lh uL hn;go_enter func129,ntmps129;go_wp2
 go_loop [3,10] (λv i=>∃ k:Nat,k<=N/\i=.int .i64 k/\v=.int .u64 (U (IN (tU.take k) 0#64))) (λ_ i=>N-(intOf i).toNat)
 case atStart=>exact⟨0,ba1 _,rfl,rfl⟩
 case round =>
  obtain⟨k,au,rfl,rfl⟩:=hrel;by_cases bW:k<N
  .have ani:k<vs.length:=by have:=gx.out;omega
   have anj:k<tU.length:=by have:=qE.out;omega
   have aa:=DA.out k ani;have ab:=gO.out k ani anj;obtain⟨l,ahQ⟩:∃ l,Hid (tU[k]=l):=⟨_,bag rfl⟩;rw[ahQ.out]at ab;generalize vs[k].1=a at aa ab;generalize vs[k].2.1=n at aa ab;generalize vs[k].2.2=cn at aa ab;obtain⟨ay,ba,b2⟩:=ab;have k7:=bag ay;clear ay;generalize r8:IN (tU.take k) 0#64=M;have PX:IN (tU.take (k+1)) 0#64=B' mix l M:=by rw[ate _ _ anj,ayz,r8,ahQ.out]
   have mZ:=bag PX;clear r8 PX;rcases b2 with pz|⟨rW,off,rfl,uD⟩
   .have VM:n=0:=by rw[k7.out,pz];rfl
    have awp:=bag pz;subst VM;clear pz;go_wp2_with fail
    refine wp_loop_rounds 1 ?_;rw[rounds_succ];go_wp2_with fail
    go_round
    case rel=>exact⟨k+1,GE,by go_num,by rw[mZ.out,awp.out];rfl⟩
    case measure=>simp[intOf];omega
   .have awd:=bag uD;clear uD;go_wp2_with fail
    go_loop [3,16] (λv i=>∃ q:Nat,q<=n/\i=.int .i64 q/\v=.int .u64 (U (B' mix (l.take q) M))) (λ_ i=>n-(intOf i).toNat)
    case atStart=>exact⟨0,ba1 _,rfl,rfl⟩
    case round =>
     obtain⟨q,I,rfl,rfl⟩:=hrel;by_cases aX6:q<n
     .have anV:q<l.length:=by have:=k7.out;omega
      have aGy:=awd.out q anV;generalize G0:l[q]=z at aGy;generalize amd:B' mix (l.take q) M=M2;have Lk:=bag (show B' mix (l.take (q+1)) M=XJ mix M2 z by rw[ate _ _ anV,ayw,amd,G0]);clear G0 amd aa;go_wp2_with (go_at_call 158;(with_reducible refine(RU _ _ M2 z rfl rfl _).mono ?_);rintro e w' ⟨rfl,rfl⟩)
      go_round
      case rel=>exact⟨q+1,GE,by go_num,by rw[Lk.out]⟩
      case measure=>simp[intOf];omega
     .have aHU:n=q:=GE
      subst aHU;have az:l.take n=l:=baE (by have:=k7.out;omega);rw[az,<-mZ.out];clear az aa;go_wp2_with fail
      go_round
      case rel=>exact⟨k+1,GE,by go_num,rfl⟩
      case measure=>simp[intOf];omega
  .have adv:N=k:=GE
   subst adv;have e:tU.take N=tU:=baE (by have:=qE.out;have:=gx.out;omega);rw[e];clear e;go_wp2_with fail
   go_ret;exact⟨Z,Z⟩

def vI.O{w w':World}{a:Option Addr}{n:Nat}{zs:List dT}(h:vI w a n zs)(j:Below w.heap.size w w'):vI w' a n zs:=by
 obtain⟨f,g,c⟩:=h;refine⟨f,g,?_⟩;rcases c with c|⟨b,l,k,e⟩
 .exact .inl c
 .refine .inr ⟨b,l,k,λi d=>?_⟩;rw[j.cell (bcu w _ (e i d))];exact e i d

def ayy(b n c:Nat)(a:Option Addr)(l:List dT)(w:World)(h:w.cell? ⟨b,0,none⟩=some (.slice a n c))(f:vI w a n l):
  Calls prog 129 #[.slice (some ⟨b,0,none⟩) 1 1] w λe w'=>e=.returned (.int .u64 (U (Kb mix l)))/\w=w':=by
 refine(ayx b 1 [(a,n,c)] [l] w Z GP Kx ?_ ?_).mono λe w' h=>h
 .intro i d
  match i,d with
  | 0,_=>exact h
 .intro i d _
  match i,d with
  | 0,_=>exact f
theorem aeS(a:Option Addr)(n c:Nat)(l:List dT)(w:World)(hs:vI w a n l):
  Calls prog 97 #[.slice a n c] w λe w'=>e=.returned (.int .u64 (U (Kb mix l)))/\Below w.heap.size w w':=by
 have ae:=(baL w.heap.size w).alloc (bao _) (.cells #[.slice a n c] 98);have ju:=hs.O ae;go_enter func97,ntmps97;go_wp2_with fail
 refine(ayy _ n c a l _ (by simp[bcF]) ju).mono ?_;rintro e w' ⟨rfl,rfl⟩;go_wp2_with fail
 go_ret;exact⟨Z,ae⟩

end Go.Proofs.YtooonebcoaleiaaGreat.Mark
namespace Go.Proofs.YtooonebcoaleiaaGreat.Tree
open Tryz
open Go.Proofs.YtooonebcoaleiaaGreat.fg Go.Proofs.YtooonebcoaleiaaGreat.Mark

def AT(s:List UInt8):dT:=s.foldl (λm b=>mix (m ^^^ BitVec.ofNat 64 b.toNat)) (mix (BitVec.ofNat 64 s.length))
def aOb(b:dT):dT:=b <<<32 ||| b >>> 32
def Nr(a b:dT):dT:=mix (mix (a ^^^ aOb b ^^^ 1#64) ^^^ b)
def ou(n:Nat):Nat:=2 ^ Nat.log2 (n-1)
def afs:Nat->List (List UInt8)->dT
 | 0,_=>0#64
 | f+1,l=>match l with
  | []=>0#64
  | [s]=>AT s
  | a::b::r=>Nr (afs f ((a::b::r).take (ou (r.length+2)))) (afs f ((a::b::r).drop (ou (r.length+2))))
def Xq(l:List (List UInt8)):dT:=afs l.length l
end Go.Proofs.YtooonebcoaleiaaGreat.Tree
namespace Go.Proofs.YtooonebcoaleiaaGreat.Tree
open Tryz
open Go.RowKit Go.Proofs.YtooonebcoaleiaaGreat Go.Proofs.YtooonebcoaleiaaGreat.fg Go.Proofs.YtooonebcoaleiaaGreat.Mark

def agy(a b:dT):bits .xor .u64 (U a) (U b)=U (a ^^^ b):=by
 refine UJ (aah _ _ _) (aag _ _ _) ?_;rw[aeV,zf,zf]
def aJ7(l:List UInt8)(n:Nat)(b:UInt8)(m:dT):(l++ [b]).foldl (λm b=>mix (m ^^^ BitVec.ofNat 64 b.toNat)) m=mix (l.foldl (λm b=>mix (m ^^^ BitVec.ofNat 64 b.toNat)) m ^^^ BitVec.ofNat 64 b.toNat):=by rw[bbZ];rfl
def upto(s:ByteArray)(k:Nat):dT:=(s.data.toList.take k).foldl (λm b=>mix (m ^^^ BitVec.ofNat 64 b.toNat)) (mix (BitVec.ofNat 64 s.size))
def aQB(s:ByteArray)(k:Nat)(h:k<s.size):upto s (k+1)=mix (upto s k ^^^ BitVec.ofNat 64 s[k].toNat):=by
 unfold upto;have a:k<s.data.toList.length:=by simpa using h
 rw[baI a,aJ7 _ k];rfl
def aQA(s:ByteArray):upto s s.size=AT s.data.toList:=by
 unfold upto AT;rw[baE Kx];rfl
def aif(n:Nat)(h:n<18446744073709551616):((n:Nat):Int)=U (BitVec.ofNat 64 n):=by
 unfold U;rw[bbL,bbC h]
theorem M3(s:ByteArray)(hs:s.size<=9223372036854775807)(w:World):Calls prog 128 #[.string s] w λe w'=>e=.returned (.int .u64 (U (AT s.data.toList)))/\∃ q,w'=w.drewN q:=by
 have aN:upto s 0=mix (BitVec.ofNat 64 s.size):=rfl;have Et:=aif s.size GE;have hm:=aeJ _ (BitVec.ofNat 64 s.size) Et;have eA:=bag (aQA s);rw[<-aN]at hm;have zJ:=bag aN;have hw:IntKind.u64.wrap (s.size:Int)=(s.size:Int):=by rw[bbr];omega
 clear Et aN;go_enter func128,ntmps128;go_wp2_with fail
 refine(hm _).mono ?_;rintro e w' ⟨rfl,rfl⟩;clear hw;go_wp2_with fail
 go_loop [3,11] (λm i=>∃ k:Nat,k<=s.size/\i=.int .i64 (k:Int)/\m=.int .u64 (U (upto s k))) (λ_ i=>s.size-(intOf i).toNat)
 case atStart=>exact⟨0,ba1 _,rfl,rfl⟩
 case round =>
  obtain⟨k,au,rfl,rfl⟩:=hrel;by_cases bW:k<s.size
  .have adS:=aQB s k bW;have hx:=agy (upto s k) (BitVec.ofNat 64 s[k].toNat);rw[<-aif s[k].toNat (by have:=s[k].toNat_lt;omega)]at hx;have hm:=aeJ _ (upto s k ^^^ BitVec.ofNat 64 s[k].toNat) rfl;rw[<-adS]at hm;have gO:=bag adS;clear adS;have aYh:IntKind.u64.wrap (s[k].toNat:Int)=(s[k].toNat:Int):=by have:=s[k].toNat_lt;rw[bbr];omega
   obtain⟨m2,Lk⟩:∃ m2,Hid (upto s (k+1)=m2):=⟨_,bag rfl⟩;rw[Lk.out]at hm;clear gO;generalize upto s k ^^^ BitVec.ofNat 64 s[k].toNat=x at *
   generalize upto s k=m1 at *
   go_wp2_with fail
   refine(hm _).mono ?_;rintro e w' ⟨rfl,rfl⟩;go_wp2_with fail
   go_round
   case rel=>exact⟨k+1,GE,by go_num,by rw[Lk.out]⟩
   case measure=>simp[intOf];omega
  .obtain rfl:k=s.size:=GE
   rw[eA.out];go_wp2_with fail
   go_ret;exact⟨Z,0,Z⟩
def aAm(l:List ByteArray):List Value:=l.map Value.string
def lists(l:List ByteArray):List (List UInt8):=l.map λs=>s.data.toList
def aUO(l:List ByteArray):Prop:=∀ s∈l,s.size<=9223372036854775807
end Go.Proofs.YtooonebcoaleiaaGreat.Tree
namespace Go.Proofs.YtooonebcoaleiaaGreat.Pack
open Tryz
open Go.Proofs.YtooonebcoaleiaaGreat.fg
def lp:Nat->Nat->List UInt8
  | 0,n=> [UInt8.ofNat n]
  | k+1,n=>if n<128 then[UInt8.ofNat n]else UInt8.ofNat (n % 128+128)::lp k (n / 128)
def eL(n:Nat):List UInt8:=lp 9 n
def val:List UInt8->Nat
  | []=>0
  | b::l=>b.toNat % 128+128*val l

def E9{k n:Nat}(h:n<128):lp k n=[UInt8.ofNat n]:=by
  cases k with
  | zero=>rfl
  | succ k=>unfold lp;rw[bap h]
def E8{k n:Nat}(h:¬n<128):lp (k+1) n=UInt8.ofNat (n % 128+128)::lp k (n / 128):=by
  rw[lp];rw[ban h]
def Xa(k n:Nat):(lp k n).length<=k+1/\1<=(lp k n).length:=by
  induction k generalizing n with
  | zero=>simp[lp]
  | succ k a =>
    by_cases h:n<128
    · rw[E9 h];simp
    · rw[E8 h];have:=a (n / 128);simp;omega
def A'(n:Nat):(eL n).length<=10/\1<=(eL n).length:=Xa 9 n

def Kh{n k:Nat}(h:n<128 ^ (k+2)):n / 128<128 ^ (k+1):=by
  rw[bdR]at h;exact Nat.div_lt_of_lt_mul (by rw[bby];exact h)
def aQH(k n:Nat)(h:n<128 ^ (k+1)):val (lp k n)=n:=by
  induction k generalizing n with
  | zero =>
    have a:n<128:=by simpa using h
    simp only[lp,val,bbg];omega
  | succ k b =>
    by_cases a:n<128
    · rw[E9 a]
      simp only[val,bbg];omega
    · rw[E8 a]
      simp only[val,bbg];rw[b (n / 128) (Kh h)];omega
def JX{n:Nat}(h:n<18446744073709551616):n<128 ^ (9+1):=bba h GP
def aQI(n:Nat)(h:n<18446744073709551616):val (eL n)=n:=aQH 9 n (JX h)
theorem aMZ(k n i:Nat)(d:n<128 ^ (k+1))(h:i+1<(lp k n).length)(b:i<(lp k n).length):128<=((lp k n)[i]).toNat:=by
  induction k generalizing n i with
  | zero=>simp[lp]at h
  | succ k c =>
    by_cases a:n<128
    · simp[E9 a]at h
    · simp only[E8 a]at h b ⊢
      cases i with
      | zero=>simp only[bdT,bbg];omega
      | succ i =>
        simp only[bdU];exact c (n / 128) i (Kh d) (by simpa using h) (by simpa using b)
theorem arJ(k n:Nat)(d:n<128 ^ (k+1))(i:Nat)(c:i<(lp k n).length)(b:i+1=(lp k n).length):((lp k n)[i]).toNat<128:=by
  induction k generalizing n i with
  | zero =>
    have a:n<128:=by simpa using d
    simp only[lp,bff,bbg];omega
  | succ k e =>
    by_cases a:n<128
    · simp only[E9 a,bff,bbg]
      omega
    · simp only[E8 a]at b c ⊢
      cases i with
      | zero =>
        have f:=(Xa k (n / 128)).2;rw[baj]at b;omega
      | succ i =>
        simp only[bdU];exact e (n / 128) (Kh d) i (by simpa using c) (by simpa using b)
def aQJ(l:List UInt8)(b:UInt8):val (l++ [b])=val l+128 ^ l.length*(b.toNat % 128):=by
  induction l with
  | nil=>simp[val]
  | cons x l a =>
    simp only[bcq,val,a,baj,bdR];rw[Nat.mul_add,<-Nat.mul_assoc,bby 128 (128 ^ l.length)];omega
def aQG(l:List UInt8):val l<128 ^ l.length:=by
  induction l with
  | nil=>simp[val]
  | cons x l a =>
    simp only[val,baj,bdR];omega
def On(l:List UInt8)(n:Nat)(rest:List UInt8)(e:Int):Prop :=
  (∃ k,k<10/\k<l.length/\(∀ i (h:i<l.length),i<k->128<=l[i].toNat)/\(∀ h:k<l.length,l[k].toNat<128)/\
    ((eL (val (l.take (k+1)) % 18446744073709551616)=l.take (k+1)/\n=val (l.take (k+1)) % 18446744073709551616/\rest=l.drop (k+1)/\e=0)\/
     (eL (val (l.take (k+1)) % 18446744073709551616)≠l.take (k+1)/\n=0/\rest=[]/\e=4)))\/
  (l.length<10/\(∀ i (h:i<l.length),128<=l[i].toNat)/\n=0/\rest=[]/\e=3)\/
  (10<=l.length/\(∀ i (h:i<l.length),i<10->128<=l[i].toNat)/\n=0/\rest=[]/\e=4)
def l'(x:Int):Nat:=if 0<=x then(2*x).toNat else(-2*x-1).toNat
end Go.Proofs.YtooonebcoaleiaaGreat.Pack
namespace Go.Proofs.YtooonebcoaleiaaGreat.Pack
open Tryz
open Go.RowKit Go.Proofs.YtooonebcoaleiaaGreat.fg

def aI4:(prog.info? 5).map (λi=>(i.zero,i.size,i.bytes))=some (some (.int .u8 0),1,1):=GT
def cells(l:List UInt8):List Value:=l.map λb=>Value.int .u8 (b.toNat:Int)
def ai9(l:List UInt8)(b:UInt8):cells (l++ [b])=cells l++ [Value.int .u8 (b.toNat:Int)]:=by unfold cells;simp
def aAo(l:List UInt8)(i:Nat)(h:i<l.length):(cells l)[i]? =some (.int .u8 (l[i].toNat:Int)):=by unfold cells;simp[h]
def strOf(l:List UInt8):ByteArray:=⟨l.toArray⟩
def NC(l:List UInt8):(strOf l).size=l.length:=by
 show l.toArray.size=_;simp
def Be(l:List UInt8):(strOf l).data.toList=l:=rfl

theorem aL3(n:Nat):bits BinOp.or IntKind.u8 ((n:Int) % 256) 128=(((UInt8.ofNat (n % 128+128)).toNat:Nat):Int):=by
 have e:((n:Int) % 256)=((n % 256:Nat):Int):=GE
 have b:n % 256<256:=bcI _ GP;have key:∀ x:Fin 256,(x.val ||| 128)=x.val % 128+128:=by decide +kernel
 have a:=key ⟨n % 256,b⟩;simp only at a;rw[e,show(128:Int)=((128:Nat):Int)from rfl,(beI .u8 8 GP wraps_u8 _ _ GE GP).2,a];simp only[bbg];omega

def aAK(w:World)(c g n a:Nat)(l:List UInt8)(d:n=l.length)(h:w.ownsRow c 5 1 (.slice (some ⟨g,0,none⟩) n a) n (cells l)):
  (convert 160 9 (.slice (some ⟨g,0,none⟩) n a)).run prog w=.ok (.string (strOf l)) w:=by
 subst d;refine bdb (P:=prog) w 160 9 5 ⟨g,0,none⟩ a l underlying160 underlying5 underlying9 ?_;intro j b;rw[aij,h.cellAt j GE,aAo l j b]

theorem Xc(n:Nat)(hn:n<18446744073709551616)(x:Int)(hx:x=n)(w:World):
  Calls prog 89 #[.int .u64 x] w λe w'=>e=.returned (.string (strOf (eL n)))/\Below w.heap.size w w':=by
 subst hx;obtain⟨i0,ao,sv,tx,tz⟩:=bc6 aI4;have gx:=bag (JX hn);clear hn;go_enter func89,ntmps89;go_wp2_with fail
 go_loopw [0,3] (λx v wr=>∃(k m:Nat) (acc:List UInt8),k<=9/\x=.int .u64 (m:Int)/\Hid (m<128 ^ (k+1))/\Hid (acc++lp k m=eL n)/\wr.ownsRow w.heap.size 5 1 v acc.length (cells acc)/\Below w.heap.size w wr) (λx _ _=>(intOf x).toNat)
 case atStart=>exact⟨9,n,[],bao _,rfl,gx,rfl,World.ownsRow_nil _ _ _ _,baL _ _⟩
 case round =>
  obtain⟨k,m,acc,au,rfl,mZ,k6,gF,ae⟩:=hrel;by_cases bW:128<=m
  .obtain⟨k',rfl⟩:∃ k',k=k'+1:=by
    cases k with
    | zero=>have:=mZ.out;simp at this;omega
    | succ k'=>exact⟨k',rfl⟩
   obtain⟨b,bg⟩:∃ b,Hid (b=UInt8.ofNat (m % 128+128)):=⟨_,bag rfl⟩;have VQ:=aL3 m;rw[<-bg.out]at VQ;have zK:Hid ((acc++ [b])++lp k' (m / 128)=eL n):=by
    show _=_;rw[<-k6.out,E8 GE,<-bg.out,baO];rfl
   have Lk:Hid (m / 128<128 ^ (k'+1)):=Kh mZ.out;have aGb:acc.length<=9:=by
    have aa:=(A' n).1;have ab:=bbh List.length zK.out;have ay:=(Xa k' (m / 128)).2;simp at ab;omega
   have Qh:=ae.alloc ae.size (.cells #[.int .u8 (b.toNat:Int)] 5);go_wp2_with (at_builtin;refine wpList_append_own _ rfl _ _ 160 rfl w.heap.size 5 i0 (.int .u8 0) 1 1 underlying160 ao sv tx tz rfl GP _ acc.length (cells acc) rfl (gF.alloc _) ⟨wr.heap.size,0,none⟩ 1 1 [.int .u8 (b.toNat:Int)] rfl rfl ?d1 ?d2 ?d3 ?d4 ?d5 ?_)
   case d1 =>
    intro j u aB
    match j,aB with
    | 0,aB=>simp at aB;subst aB;simp[Addr.add]
   case d2=>intro u hu;simp at hu;subst hu;rfl
   case d3=>unfold maxLen;omega
   case d4=>omega
   case d5=>have:=ae.size;simp;omega
   intro v' a8 AI lj _;have dx:=Qh.grown lj (by have:=ae.size;simp;omega) (λq I=>(gF.lt q I).1);rw[<-ai9,show acc.length+1=(acc++ [b]).length by simp]at AI;clear lj gF Qh ae;go_wp2_with fail
   go_roundw
   case rel=>exact⟨k',m / 128,acc++ [b],GE,by go_num,Lk,zK,AI,dx⟩
   case measure=>simp[intOf];omega
  .have ha:acc++ [UInt8.ofNat m]=eL n:=by rw[<-k6.out,E9 GE]
   have anu:(UInt8.ofNat m).toNat=m:=by rw[bbg];omega
   have aGb:acc.length<=9:=by
    have aa:=(A' n).1;have ab:=bbh List.length ha;simp at ab;omega
   have av5:=bag anu;have zK:=bag ha;have Qh:=ae.alloc ae.size (.cells #[.int .u8 (m:Int)] 5);clear ha anu;go_wp2_with (at_builtin;refine wpList_append_own _ rfl _ _ 160 rfl w.heap.size 5 i0 (.int .u8 0) 1 1 underlying160 ao sv tx tz rfl GP _ acc.length (cells acc) rfl (gF.alloc _) ⟨wr.heap.size,0,none⟩ 1 1 [.int .u8 (m:Int)] rfl rfl ?c1 ?c2 ?c3 ?c4 ?c5 ?_)
   case c1 =>
    intro j u aB
    match j,aB with
    | 0,aB=>simp at aB;subst aB;simp[Addr.add]
   case c2=>intro u hu;simp at hu;subst hu;rfl
   case c3=>unfold maxLen;omega
   case c4=>omega
   case c5=>have:=ae.size;simp;omega
   intro v' a8 AI lj _;have dx:=Qh.grown lj (by have:=ae.size;simp;omega) (λq I=>(gF.lt q I).1);have amN:cells acc++ [Value.int .u8 (m:Int)]=cells (eL n):=by rw[<-zK.out,ai9,av5.out]
   have hlen:acc.length+1=(eL n).length:=by rw[<-zK.out];simp
   rw[amN,hlen]at AI;have hex:∃ g cap,v'=.slice (some ⟨g,0,none⟩) (eL n).length cap:=by
    rcases AI.2 with⟨_,h⟩|⟨g,cap,cur,h,_⟩
    .omega
    .exact⟨g,cap,h⟩
   obtain⟨g,cap,hv⟩:=hex;rw[hv]at AI ⊢;have hcv:=aAK a8 _ g _ cap (eL n) rfl AI;clear hv lj gF Qh ae amN hlen AI;go_wp2_with fail
   go_ret;exact⟨Z,dx⟩

def RE{a b:Int}(h:a=b):Ending.returned (.int .u64 a)=.returned (.int .u64 b):=by rw[h]
def aRT(n:Nat)(h:n<18446744073709551616):n ^^^ 18446744073709551615=18446744073709551615-n:=by
 have e:(BitVec.ofNat 64 n ^^^ BitVec.allOnes 64).toNat=(~~~(BitVec.ofNat 64 n)).toNat:=by rw[bfF]
 rw[BitVec.toNat_xor,BitVec.toNat_not,bbL,BitVec.toNat_allOnes,bbC h]at e;exact e
theorem aEC(x:Int)(aN: -9223372036854775808<=x)(aa:x<=9223372036854775807)(w:World):
  Calls prog 90 #[.int .i64 x] w λe w'=>e=.returned (.int .u64 (l' x))/\w=w':=by
 by_cases hx:0<=x
 .go_enter func90,ntmps90;go_wp2
  go_ret;refine⟨RE ?_,Z⟩;have e:x / 9223372036854775808=((0:Nat):Int):=GE
  obtain⟨m,rfl⟩:=bcr hx;rw[e,show((m:Int)*2)=((m*2:Nat):Int) by omega,u64_xor_nat _ _ GE GE,Nat.xor_zero];unfold l';rw[bap hx];omega
 .go_enter func90,ntmps90;go_wp2
  go_ret;refine⟨RE ?_,Z⟩;have JH:¬0<=x:=GE
  have e:IntKind.u64.wrap (x / 9223372036854775808)=((18446744073709551615:Nat):Int):=by rw[bbr];omega
  have bw:IntKind.u64.wrap (IntKind.u64.wrap x*2)=(((2*x+18446744073709551616).toNat:Nat):Int):=by rw[bbr,bbr];omega
  rw[e,bw,u64_xor_nat _ _ GE GE];unfold l';rw[ban JH];have dD:(2*x+18446744073709551616).toNat ^^^ 18446744073709551615=18446744073709551615-(2*x+18446744073709551616).toNat:=by
   exact aRT _ GE
  rw[dD];omega

def auh(n:Int)(a:0<=n)(b:n<2 ^ 64):IntKind.u64.wrap n=n:=by rw[bbr];omega
def ayA(b:UInt8):bits BinOp.and IntKind.u8 (b.toNat:Int) 127=((b.toNat % 128:Nat):Int):=by
 have h:=bits_mask .u8 8 GP wraps_u8 7 GP (b.toNat:Int) (bb9 _) (by have:=b.toNat_lt;omega);simpa using h
theorem afP(l:List UInt8)(b:UInt8)(k:Nat)(i:k=l.length)(g:k<=9):
  bits BinOp.or IntKind.u64 ((val l % 18446744073709551616:Nat):Int) (((b.toNat % 128:Nat):Int)*2 ^ (7*k) % 18446744073709551616)=((val (l++ [b]) % 18446744073709551616:Nat):Int):=by
 subst i;have f:(128:Nat) ^ l.length=2 ^ (7*l.length):=by rw[show(128:Nat)=2 ^ 7 from rfl,<-Nat.pow_mul]
 have a:=aQG l;have n:(128:Nat) ^ l.length<=128 ^ 9:=bck GP g;have e:val l<18446744073709551616:=bba a (bay n GP);rw[aQJ,bbC e,f];have p:b.toNat % 128<128:=bcI _ GP;generalize b.toNat % 128=d at *
 obtain⟨r,o⟩:∃ r,64=7*l.length+r:=⟨64-7*l.length,GE⟩;have c:18446744073709551616=2 ^ (7*l.length)*2 ^ r:=by rw[<-Nat.pow_add,<-o]
 have j:((d:Int)*2 ^ (7*l.length) % 18446744073709551616)=((2 ^ (7*l.length)*(d % 2 ^ r):Nat):Int):=by
  rw[<-Nat.mul_mod_mul_left,<-c,Int.natCast_emod,beN,Int.natCast_pow,bdt];rfl
 rw[f]at a;have h:2 ^ (7*l.length)*(d % 2 ^ r)<18446744073709551616:=by
  rw[c];exact Nat.mul_lt_mul_of_pos_left (bcI _ (bcx _)) (bcx _)
 have m:(val l+2 ^ (7*l.length)*d) % 18446744073709551616=2 ^ (7*l.length)*(d % 2 ^ r)+val l:=by
  rw[c,Nat.mod_mul,Nat.add_mul_mod_self_left,bbC a,Nat.add_mul_div_left _ _ (bcx _),bdL a,bbi,bes]
 rw[j,m,(beI .u64 64 GP auh _ _ e h).2];rw[Nat.two_pow_add_eq_or_of_lt a,Nat.or_comm]

def RD{a d:Int}{b f:ByteArray}{c e:Int}(g:a=d)(h:b=f)(i:c=e):Ending.returned (.tuple #[.int .u64 a,.string b,.int .i64 c])=.returned (.tuple #[.int .u64 d,.string f,.int .i64 e]):=by rw[g,h,i]
def av2(l:List UInt8)(w:World)(e:Ending)(w':World):Prop :=
 ∃(n:Nat) (rest:List UInt8) (k:Int),On l n rest k/\e=.returned (.tuple #[.int .u64 (n:Int),.string (strOf rest),.int .i64 k])/\Below w.heap.size w w'

theorem alS(s:ByteArray)(hs:s.size<=9223372036854775807)(w:World):Calls prog 98 #[.string s] w (av2 s.data.toList w):=by
 go_enter func98,ntmps98;go_wp2_with fail
 go_loopw [5,6] (λv i wr=>∃ k:Nat,k<=s.size/\k<=10/\i=.int .i64 k/\v=.int .u64 ((val (s.data.toList.take k) % 18446744073709551616:Nat):Int)/\Hid (∀ i (h:i<s.data.toList.length),i<k->128<=(s.data.toList[i]).toNat)/\Below w.heap.size w wr) (λ_ i _=>s.size-(intOf i).toNat)
 case atStart=>exact⟨0,ba1 _,ba1 _,rfl,rfl,λi h ab=>absurd ab GE,baL _ _⟩
 case round =>
  obtain⟨k,au,aXi,rfl,rfl,o9,ae⟩:=hrel;by_cases bW:k<s.size
  .by_cases Ep:k<10
   .have js:k<s.data.toList.length:=by simpa using bW
    have adQ:s[k]=s.data.toList[k]:=rfl;have ij:=afP (s.data.toList.take k) s[k] k (by simp;omega) GE;rw[adQ,<-baI js,<-adQ]at ij;have ahx:bits BinOp.or IntKind.u64 ((val (s.data.toList.take k) % 18446744073709551616:Nat):Int) (IntKind.u64.wrap (IntKind.u64.wrap (bits BinOp.and IntKind.u8 (s[k].toNat:Int) 127)*2 ^ (7*k)))=((val (s.data.toList.take (k+1)) % 18446744073709551616:Nat):Int):=by
     rw[<-ij,ayA,bbr,bbr];congr 3;omega
    obtain⟨M',Lj⟩:∃ M',Hid (val (s.data.toList.take (k+1)) % 18446744073709551616=M'):=⟨_,bag rfl⟩;have PX:M'<18446744073709551616:=by rw[<-Lj.out];exact bcI _ GP
    rw[Lj.out]at ahx;generalize val (s.data.toList.take k) % 18446744073709551616=M at ahx ⊢;have bg:=bag PX;clear adQ ij PX;by_cases aci:128<=s[k].toNat
    .go_wp2_with fail
     go_roundw
     case rel =>
      refine⟨k+1,GE,GE,by go_num,by rw[Lj.out],?_,ae⟩;intro i h ao;by_cases oe:i=k
      .subst oe;exact aci
      .exact o9.out i h GE
     case measure=>simp[intOf];omega
    .have sj:k+1<=s.size:=bW;have fJ:(0:Int)<=(k:Int)+1:=GE
     have VD:(k:Int)+1<=(s.size:Int):=GE
     have aG9:IntKind.i64.wrap ((k:Int)+1)=(k:Int)+1:=beg _ GE;have aXj:((k:Int)+1).toNat=k+1:=GE
     by_cases hp:eL M'=s.data.toList.take (k+1)
     .have I:((strOf (eL M')).toList == (s.extract 0 (k+1)).toList)=true:=aiY (aan (by rw[Be,bdX,bc8,hp];rfl));have DI:=bag hp;clear hp;go_wp2_with fail
      go_region_held3 (λox=>Below w.heap.size w ox) (first|exact ae.drew|exact ae.drew.trans (by assumption)|assumption) ((go_at_call 89;refine(Xc M' bg.out _ rfl _).mono ?_;rintro e w' ⟨rfl,bQ⟩;have eD:=ae.drew.trans (bQ.mono ae.size)))
      clear ae bQ I;go_wp2_with fail
      go_quiet (fail)
      go_wp2_with fail
      go_ret3
      refine⟨M',s.data.toList.drop (k+1),0,.inl ⟨k,Ep,js,o9.out,λ_=>by have:=aci;show s[k].toNat<128;omega,.inl ⟨by rw[Lj.out];exact DI.out,Lj.out.symm,rfl,rfl⟩⟩,RD Z (aan ?_) Z,below_drewN (by assumption) _⟩;rw[Be,bdX,baE Kx]
     .have I:((strOf (eL M')).toList == (s.extract 0 (k+1)).toList)=false:=aiW (λh=>hp (by
       have ab:=bbh (λx:ByteArray=>x.data.toList) h;simp only[Be,bdX,bc8]at ab;exact ab))
      have DI:=bag hp;clear hp;go_wp2_with fail
      go_region_held3 (λox=>Below w.heap.size w ox) (first|exact ae.drew|exact ae.drew.trans (by assumption)|assumption) ((go_at_call 89;refine(Xc M' bg.out _ rfl _).mono ?_;rintro e w' ⟨rfl,bQ⟩;have eD:=ae.drew.trans (bQ.mono ae.size)))
      clear ae bQ I;go_wp2_with fail
      go_ret3
      exact⟨0,[],4,.inl ⟨k,Ep,js,o9.out,λ_=>by have:=aci;show s[k].toNat<128;omega,.inr ⟨by rw[Lj.out];exact DI.out,rfl,rfl,rfl⟩⟩,RD Z Z Z,by assumption⟩
   .have aG7:k=10:=GE
    subst aG7;have hlen:¬(s.size:Int)<10:=GE
    go_wp2_with fail
    go_ret3
    exact⟨0,[],4,.inr (.inr ⟨by simp;have e:s.data.size=s.size:=rfl;omega,λi h ao=>o9.out i h ao,rfl,rfl,rfl⟩),RD Z Z Z,ae⟩
  .have y0:k=s.size:=GE
   have eA:∀ i (h:i<s.data.toList.length),i<k:=by
    intro i h;have e:s.data.toList.length=s.size:=Kx
    omega
   have e:s.data.toList.length=s.size:=Kx
   by_cases Ep:s.size<10
   .have k7:=bag e;have k6:=bag eA;have jM:=bag y0;clear e eA y0;have hlen:(s.size:Int)<10:=GE
    have uG:(s.size:Int)<=(k:Int):=GE
    go_wp2_with fail
    go_ret3
    exact⟨0,[],3,.inr (.inl ⟨by have:=k7.out;omega,λi h=>o9.out i h (k6.out i h),rfl,rfl,rfl⟩),RD Z Z Z,ae⟩
   .have k7:=bag e;have k6:=bag eA;have jM:=bag y0;clear e eA y0;have hlen:¬(s.size:Int)<10:=GE
    have uG:(s.size:Int)<=(k:Int):=GE
    go_wp2_with fail
    go_ret3
    exact⟨0,[],4,.inr (.inr ⟨by have:=k7.out;omega,λi h ao=>o9.out i h (k6.out i h),rfl,rfl,rfl⟩),RD Z Z Z,ae⟩
end Go.Proofs.YtooonebcoaleiaaGreat.Pack
namespace Go.Proofs.YtooonebcoaleiaaGreat
open Tryz
def yE(l:List Int):List Value:=l.map (Value.int .i64)
def ai7(l:List Int)(i:Nat)(h:i<l.length):(yE l)[i]? =some (.int .i64 l[i]):=by unfold yE;simp[h]
def aAl(l:List Int)(x:Int):yE (l++ [x])=yE l++ [.int .i64 x]:=by unfold yE;simp
def S3(_:Nat)(u:Value):Prop:=∃ n:Int,u=.int .i64 n
def aI3:(prog.info? 3).map (λi=>(i.zero,i.size,i.bytes))=some (some (.int .i64 0),1,8):=GT
def vE(l:List Int):Prop:=∀ x∈l,-9223372036854775808<=x/\x<=9223372036854775807
end Go.Proofs.YtooonebcoaleiaaGreat
namespace Go.Proofs.YtooonebcoaleiaaGreat.Pack
open Tryz
open Go.Proofs.YtooonebcoaleiaaGreat Go.Proofs.YtooonebcoaleiaaGreat.fg

theorem aM0(k x y:Nat)(u v:List UInt8)(d:x<128 ^ (k+1))(c:y<128 ^ (k+1))(h:lp k x++u=lp k y++v):x=y/\u=v:=by
 induction k generalizing x y with
 | zero =>
  simp only[lp,bfk,bci]at h;have:=bbh UInt8.toNat h.1;simp only[bbg]at this;simp at d c;exact⟨GE,h.2⟩
 | succ k f =>
  by_cases b:x<128
  .by_cases a:y<128
   .rw[E9 b,E9 a]at h;simp only[bfk,bci]at h;have:=bbh UInt8.toNat h.1;simp only[bbg]at this;exact⟨GE,h.2⟩
   .rw[E9 b,E8 a]at h;simp only[bcq,bci]at h;have:=bbh UInt8.toNat h.1;simp only[bbg]at this;omega
  .by_cases a:y<128
   .rw[E8 b,E9 a]at h;simp only[bcq,bci]at h;have:=bbh UInt8.toNat h.1;simp only[bbg]at this;omega
   .rw[E8 b,E8 a]at h;simp only[bcq,bci]at h;have e:=bbh UInt8.toNat h.1;simp only[bbg]at e;obtain⟨i,g⟩:=f (x / 128) (y / 128) (Kh d) (Kh c) h.2;exact⟨GE,g⟩
def Xb{x y:Nat}{u v:List UInt8}(b:x<18446744073709551616)(a:y<18446744073709551616)(h:eL x++u=eL y++v):x=y/\u=v:=aM0 9 x y u v (JX b) (JX a) h
def alT{l:List UInt8}{n:Nat}{rest:List UInt8}(h:On l n rest 0):l=eL n++rest/\n<18446744073709551616:=by
 rcases h with⟨k,d,e,_,_,⟨a,b,c,_⟩|⟨_,_,_,h⟩⟩|⟨_,_,_,_,h⟩|⟨_,_,_,_,h⟩
 .subst b;subst c;exact⟨by rw[a,bbU],bcI _ GP⟩
 all_goals cases h
theorem aEv{n k:Nat}{r:List UInt8}(a:n<18446744073709551616)(g:k<(eL n++r).length)(d:∀ i (h:i<(eL n++r).length),i<k->128<=((eL n++r)[i]).toNat)(c:((eL n++r)[k]).toNat<128):k+1=(eL n).length:=by
 have f:=(A' n).2;rcases bfI (k+1) (eL n).length with h|h|h
 .rw[bcU GE]at c;have:=aMZ 9 n k (JX a) h (by show k<(eL n).length;omega);have e:(lp 9 n)[k]'(by show k<(eL n).length;omega)=(eL n)[k]'(by omega):=rfl;rw[e]at this;omega
 .exact h
 .have b:=d ((eL n).length-1) (by simp;omega) GE;rw[bcU GE]at b;have:=arJ 9 n (JX a) ((eL n).length-1) (by show _<(eL n).length;omega) (by show _=(eL n).length;omega);have e:(lp 9 n)[(eL n).length-1]'(by show _<(eL n).length;omega)=(eL n)[(eL n).length-1]'(by omega):=rfl;rw[e]at this;omega
theorem Eo{n:Nat}{r:List UInt8}{m:Nat}{rest:List UInt8}{e:Int}(b:n<18446744073709551616)(h:On (eL n++r) m rest e):m=n/\rest=r/\e=0:=by
 have x:=A' n;have c:∃ i,∃ a:i<(eL n++r).length,i<10/\((eL n++r)[i]).toNat<128:=by
  refine⟨(eL n).length-1,by simp;omega,GE,?_⟩;rw[bcU GE];exact arJ 9 n (JX b) ((eL n).length-1) (by show _<(eL n).length;omega) (by show _=(eL n).length;omega)
 rcases h with⟨k,w,f,u,s,h⟩|⟨_,d,_⟩|⟨_,d,_⟩
 .have g:=aEv b f u (s f);have l:(eL n++r).take (k+1)=eL n:=by rw[g,bdx]
  have v:val (eL n) % 18446744073709551616=n:=by rw[aQI n b,bbC b]
  rw[l,v]at h;rcases h with⟨_,p,q,t⟩|⟨o,_⟩
  .refine⟨p,?_,t⟩;rw[q,g,List.drop_left]
  .exact absurd Z o
 .obtain⟨i,a,_,c⟩:=c;have:=d i a;omega
 .obtain⟨i,a,j,c⟩:=c;have:=d i a j;omega
def zo(n:Nat):Int:=if n % 2=0 then((n / 2:Nat):Int)else -((n / 2:Nat):Int)-1
def aEF(n:Nat):l' (zo n)=n:=by
 unfold l' zo;split<;>split<;>omega
def atF(x:Int):zo (l' x)=x:=by
 unfold l' zo;split<;>split<;>omega
def Mc(x:Int)(a: -9223372036854775808<=x)(b:x<=9223372036854775807):l' x<18446744073709551616:=by
 unfold l';split<;>omega
def aQr(n:Nat)(h:n<18446744073709551616): -9223372036854775808<=zo n/\zo n<=9223372036854775807:=by
 unfold zo;split<;>omega
def items(l:List Int):List UInt8:=l.flatMap λx=>eL (l' x)
def tJ(l:List Int):List UInt8:=eL l.length++items l
def Q0(x:Int)(l:List Int):items (x::l)=eL (l' x)++items l:=rfl
def aJd(a b:List Int):items (a++b)=items a++items b:=by unfold items;rw[bbH]
def ad4(a:List Int)(x:Int):items (a++ [x])=items a++eL (l' x):=by rw[aJd,Q0];simp[items]
def V'(l:List Int):(items l).length<=10*l.length:=by
 induction l with
 | nil=>simp[items]
 | cons x l a=>rw[Q0];have:=(A' (l' x)).1;simp;omega
def aEB{x y:Int}(h:l' x=l' y):x=y:=by rw[<-atF x,h,atF]
theorem V_:∀(a b:List Int) (s:List UInt8),vE a->vE b->a.length<=b.length->items a++s=items b->a=b.take a.length/\s=items (b.drop a.length)
 | [],b,s,_,_,_,h=>⟨Kx,by simpa[items]using h⟩
 | x::a,[],s,_,_,az,_=>by simp at az
 | x::a,y::b,s,ha,e,az,h=>by
  rw[Q0,Q0,baO]at h;have f:=ha x Kx;have d:=e y Kx;obtain⟨g,i⟩:=Xb (Mc x f.1 f.2) (Mc y d.1 d.2) h;obtain⟨j,k⟩:=V_ a b s (λz c=>ha z (by simp[c])) (λz c=>e z (by simp[c])) (by simpa using az) i;rw[aEB g];exact⟨by simp;exact j,by simpa using k⟩
def Dw(s:List UInt8)(a:List Int)(e:Int):Prop :=
 vE a/\(e=0->s=tJ a/\a.length<=1000)/\(e≠0->a=[]/\∀ l,vE l->l.length<=1000->s≠tJ l)
def aFf{l b:List Int}{e:Int}(c:vE l)(g:l.length<=1000)(h:Dw (tJ l) b e):e=0/\b=l:=by
 obtain⟨m,i,j⟩:=h;by_cases a:e=0
 .obtain⟨d,o⟩:=i a;unfold tJ at d;obtain⟨k,n⟩:=Xb GE GE d;obtain⟨f,_⟩:=V_ l b [] c m GE (by rw[baP];exact n);rw[k,ba7]at f;exact⟨a,f.symm⟩
 .exact absurd Z ((j a).2 l c g)
def aiF{s:List UInt8}{n:Nat}{r:List UInt8}{e:Int}(h:On s n r e)(a:e≠0\/1000<n){k:Int}(b:k≠0):Dw s [] k:=by
 refine⟨λx f=>(by cases f),λh=>absurd h b,λ_=>⟨Z,λl j g d=>?_⟩⟩;subst d;obtain⟨i,_,c⟩:=Eo GE h;rcases a with a|a
 .exact a c
 .omega
theorem ayW{s:List UInt8}{n:Nat}{a:List Int}{r:List UInt8}{m:Nat}{q:List UInt8}{e:Int}(c:s=eL n++(items a++r))(o:n<18446744073709551616)(k:vE a)(v:a.length<n)(h:On r m q e)(g:e≠0):Dw s [] e:=by
 refine⟨λx b=>(by cases b),λh=>absurd h g,λ_=>⟨Z,λl d t p=>?_⟩⟩;rw[p]at c;unfold tJ at c;obtain⟨u,i⟩:=Xb GE o c;obtain⟨w,f⟩:=V_ a l r k d GE i.symm;have j:l.drop a.length=l[a.length]'(by omega)::l.drop (a.length+1):=bcg GE;rw[j,Q0]at f;subst f;have b:=d (l[a.length]'(by omega)) (bbl _);exact g (Eo (Mc _ b.1 b.2) h).2.2
def ayV{s:List UInt8}{n:Nat}{a:List Int}{r:List UInt8}(b:s=eL n++(items a++r))(i:n<18446744073709551616)(g:vE a)(t:a.length=n)(j:r≠ []){k:Int}(d:k≠0):Dw s [] k:=by
 refine⟨λx m=>(by cases m),λh=>absurd h d,λ_=>⟨Z,λl f p o=>?_⟩⟩;rw[o]at b;unfold tJ at b;obtain⟨q,e⟩:=Xb GE i b;obtain⟨u,c⟩:=V_ a l r g f GE e.symm;rw[bfh GE]at c;exact j c
def aFe{s:List UInt8}{n:Nat}{a:List Int}(d:s=eL n++(items a++ []))(c:vE a)(b:a.length=n)(e:n<=1000):Dw s a 0 :=
 ⟨c,λ_=>⟨by rw[d,baP,<-b];rfl,GE⟩,λh=>absurd rfl h⟩
end Go.Proofs.YtooonebcoaleiaaGreat.Pack
namespace Go.Proofs.YtooonebcoaleiaaGreat.Pack
open Tryz
open Go.RowKit Go.Proofs.YtooonebcoaleiaaGreat

def asK:(prog.info? 162).map (·.size)=some 2:=GT
def aKf:liesAt prog prog.depth 162 (2 / prog.cellsOf 162) 0 162 1=true:=GT
def infoByte:(prog.info? 5).map (λi=>(i.zero,i.size,i.bytes))=some (some (.int .u8 0),1,1):=GT
def aAv(b:Nat)(w:World)(aN:w.cell? ⟨b,0,none⟩=some (.pointer (some ⟨b,0,none⟩))):
  Calls prog 120 #[.pointer (some ⟨b,0,none⟩)] w λe w'=>e=.returned (.tuple #[])/\w'=w:=by
 obtain⟨j,aB,_⟩:=bfb.1 asK;go_enter func120,ntmps120;go_wp2
 rw[Lib.run_neq_ptr_same w _ underlying159 aB];go_wp2
 go_end0
 exact⟨Z,Z⟩
theorem aAt(b:Nat)(w:World)(aN:w.cell? ⟨b,0,none⟩=some (.pointer none))(VX:w.shape? b=some (162,2))(aXf:w.frozen? ⟨b,0,none⟩=false):
  Calls prog 120 #[.pointer (some ⟨b,0,none⟩)] w λe w'=>e=.returned (.tuple #[])/\w'=w.setCell ⟨b,0,none⟩ (.pointer (some ⟨b,0,none⟩)):=by
 obtain⟨j,aB,aG5⟩:=bfb.1 asK;go_enter func120,ntmps120;go_wp2
 rw[Lib.run_to_unsafe w ⟨b,0,none⟩ underlying159 underlying233 aB (by rw[aG5];decide) VX (Nat.zero_lt_succ 1)];simp only[Result.andThen];rw[be0];go_wp2
 rw[run_callFunc_extern func147 GT GT GT (e:=Extern.AbiNoEscape.same) GT];rw[Lib.run_noEscape];simp only[Result.andThen];rw[be0];go_wp2
 rw[Lib.run_from_unsafe w ⟨b,0,none⟩ underlying233 underlying159 aB VX aKf];simp only[Result.andThen];rw[be0];go_wp2
 go_end0
 exact⟨Z,Z⟩
theorem Gz(B b:Nat)(a:List Value)(w:World)(h:Lib.IsBuilder 162 5 B b a w):
  Calls prog 120 #[.pointer (some ⟨b,0,none⟩)] w λe w'=>e=.returned (.tuple #[])/\(Lib.BuilderAt 162 5 B b (.pointer (some ⟨b,0,none⟩)) a w'/\Below B w w'):=by
 rcases h with h|h
 .refine(aAt b w h.cell0 h.shape h.frozen0).mono ?_;rintro e w' ⟨rfl,rfl⟩;exact⟨Z,h.used _,(baL B w).setCell (p:=⟨b,0,none⟩) h.1 _⟩
 .refine(aAv b w h.cell0).mono ?_;rintro e w' ⟨rfl,rfl⟩;exact⟨Z,h,baL B _⟩
theorem aui(B b:Nat)(cT:List Value)(s:ByteArray)(w:World)(h:Lib.IsBuilder 162 5 B b cT w)(hlen:cT.length+s.size<=140737488355328)(al2:B<=w.heap.size):
  Calls prog 88 #[.pointer (some ⟨b,0,none⟩),.string s] w λe w'=>e=.returned (.tuple #[.int .i64 s.size,.nilIface])/\(Lib.BuilderAt 162 5 B b (.pointer (some ⟨b,0,none⟩)) (cT++Lib.strCells s) w'/\Below B w w'):=by
 obtain⟨i0,ao,sv,tx,tz⟩:=bc6 infoByte;go_enter func88,ntmps88;go_wp2_with fail
 refine(Gz B b cT _ h).mono ?_;rintro e a8 ⟨rfl,aa,dx⟩;obtain⟨bB,v,Jp,gF,eV⟩:=aa;have cl:a8.cell? ⟨b,0,none⟩=some (.pointer (some ⟨b,0,none⟩)):=by rw[bdY Jp];rfl
 have c1:a8.cell? ⟨b,1,none⟩=some v:=by rw[bdY Jp];rfl
 go_wp2_with (at_builtin;refine Lib.wpList_append_own_string _ rfl _ _ 160 9 rfl B 5 i0 underlying160 underlying9 ao sv tx tz _ _ _ rfl gF s rfl ?c3 ?c4 ?c5 ?_)
 case c3=>unfold maxLen;omega
 case c4=>omega
 case c5=>have:=dx.size;omega
 intro v' dn AI lj _;have bW:b<a8.heap.size:=by
  rcases ba2 b a8.heap.size with dt|dt
  .exact dt
  .simp[bbj dt]at Jp
 have bQ:dn.heap[b]? =some (.cells #[.pointer (some ⟨b,0,none⟩),v] 162 (0,0)):=by
  rw[lj.block b bW (λe=>eV e.symm)];exact Jp
 have d0:dn.cell? ⟨b,0,none⟩=some (.pointer (some ⟨b,0,none⟩)):=by rw[bdY bQ];rfl
 have d1:dn.cell? ⟨b,1,none⟩=some v:=by rw[bdY bQ];rfl
 have f1:dn.frozen? ⟨b,1,none⟩=false:=Lib.frozen_of_heap bQ 1;obtain⟨aiq,ln,cap,rfl⟩:∃ aiq ln cap,v'=.slice aiq ln cap:=by
  rcases AI.2 with⟨hv,_⟩|⟨g,cap,cur,hv,_⟩
  .exact⟨_,_,_,hv⟩
  .exact⟨_,_,_,hv⟩
 go_wp2
 go_ret2
 refine⟨Z,?_,?_⟩
 .exact Lib.BuilderAt.put (T:=162) (e:=5) bB bQ (bs':=cT++Lib.strCells s) (by simpa[Lib.strCells_length]using AI) GP
 .exact(dx.grown lj (by have:=dx.size;omega) (λk au=>(gF.lt k au).1)).setCell (p:=⟨b,1,none⟩) bB _
end Go.Proofs.YtooonebcoaleiaaGreat.Pack
namespace Go.Proofs.YtooonebcoaleiaaGreat.Pack
open Tryz
open Go.RowKit Go.Proofs.YtooonebcoaleiaaGreat Go.Proofs.YtooonebcoaleiaaGreat.fg

def T4(c:BinOp)(a b:Int): -9223372036854775808<=bits c .i64 a b/\bits c .i64 a b<=9223372036854775807:=by
 have h:bits c .i64 a b=IntKind.i64.wrap (bits c .i64 a b):=by
  unfold bits;rw[bdZ,bdZ];omega
 rw[h,bdZ];omega
def alk{x y:Int}(a: -9223372036854775808<=x)(b:x<=9223372036854775807)(c: -9223372036854775808<=y)(g1:y<=9223372036854775807)(h:BitVec.ofInt 64 x=BitVec.ofInt 64 y):x=y:=by
 have e:=bbh BitVec.toInt h;rw[bem,bem]at e;simp only[Int.bmod]at e;omega
def aRU(x:Int)(a: -9223372036854775808<=x)(b:x<=9223372036854775807):bits .xor .i64 x 0=x:=by
 refine alk (T4 _ _ _).1 (T4 _ _ _).2 a b ?_;rw[aq3];simp
def aRS(x:Int)(c: -9223372036854775808<=x)(d:x<=9223372036854775807):bits .xor .i64 x (-1)= -x-1:=by
 refine alk (T4 _ _ _).1 (T4 _ _ _).2 GE GE ?_;rw[aq3];have a:BitVec.ofInt 64 (-1)=BitVec.allOnes 64:=GP
 rw[a,bfF];have b:(-x-1:Int)= -x+ -1:=GE
 rw[b,BitVec.ofInt_add,BitVec.ofInt_neg,a];rw[BitVec.not_eq_neg_add,BitVec.sub_eq_add_neg,show -1#64=BitVec.allOnes 64 from by decide]
theorem aQs(n:Nat)(hn:n<18446744073709551616)(w:World):
  Calls prog 99 #[.int .u64 (n:Int)] w λe w'=>e=.returned (.int .i64 (zo n))/\w=w':=by
 have ab:n / 2<9223372036854775808:=GE
 have kU:=aRU ((n / 2:Nat):Int) GE GE;have ik:=aRS ((n / 2:Nat):Int) GE GE;have hd:(n:Int) / 2=((n / 2:Nat):Int):=GE
 have ha:bits .and .u64 (n:Int) 1=((n % 2:Nat):Int):=by
  have h:=(beI .u64 64 GP auh n 1 GE GP).1;rw[bfB]at h;exact h
 unfold zo;obtain⟨m,mZ⟩:∃ m,Hid (n / 2=m):=⟨_,bag rfl⟩;rw[mZ.out]at ab kU ik hd ⊢;rcases bbO n with h|h
 .rw[h]at ha ⊢;rw[bap rfl];have ha:bits .and .u64 (n:Int) 1=0:=ha;clear h;go_enter func99,ntmps99;go_wp2_with fail
  go_ret;exact⟨Z,Z⟩
 .rw[h]at ha ⊢;rw[ban GP];have ha:bits .and .u64 (n:Int) 1=1:=ha;clear h;go_enter func99,ntmps99;go_wp2_with fail
  go_ret;exact⟨Z,Z⟩
def aam{T e:TypeId}{B b:Nat}{p:Value}{c:List Value}{w w':World}(h:Lib.BuilderAt T e B b p c w)(a:Below w.heap.size w w'):Lib.BuilderAt T e B b p c w':=by
 have g:=h.lt;obtain⟨f,v,d,j,i⟩:=h;exact⟨f,v,by rw[a.block b g];exact d,aMg j a,i⟩
def aMX(A:Option Addr)(n c:Nat)(hn:1000<n)(w:World):
  Calls prog 61 #[.slice A n c] w λe w'=>e=.returned (.tuple #[.string ⟨#[]⟩,.int .i64 2])/\w=w':=by
 have MM:(1000:Int)<(n:Int):=GE
 go_enter func61,ntmps61;go_wp2_with fail
 go_ret2
 exact⟨Z,Z⟩
theorem arH(A:Option Addr)(n c:Nat)(l:List Int)(az:l.length=n)(hn:n<=1000)(U7:vE l)(w:World)(hr:Rd w 1 A n (yE l)):
  Calls prog 61 #[.slice A n c] w λe w'=>e=.returned (.tuple #[.string (strOf (tJ l)),.int .i64 0])/\Below w.heap.size w w':=by
 have bB:Lib.IsBuilder 162 5 w.heap.size w.heap.size [] (w.alloc (.cells #[.pointer none,.slice none 0 0] 162)):=
  .inl ⟨bao _,.slice none 0 0,bdC w _,World.ownsRow_nil _ _ _ _,by simp[Value.ownBlock]⟩
 have du:Below w.heap.size w (w.alloc (.cells #[.pointer none,.slice none 0 0] 162)):=(baL _ _).alloc (bao _) _;have hw:IntKind.u64.wrap (n:Int)=(n:Int):=by rw[bbr];omega
 have qE:=bag az;clear az;go_enter func61,ntmps61;go_wp2_with fail
 refine(Xc n GE _ Z _).mono ?_;rintro e a8 ⟨rfl,dx⟩;have alX:Lib.IsBuilder 162 5 w.heap.size w.heap.size [] a8:=by
  rcases bB with h|h
  .exact .inl (aam h dx)
  .exact .inr (aam h dx)
 have bQ:=du.trans (dx.mono du.size);clear bB dx;have wh:=A' n;go_wp2_with fail
 refine(aui w.heap.size w.heap.size [] (strOf (eL n)) a8 alX (by rw[NC];simp;omega) bQ.size).mono ?_;rintro e dn ⟨rfl,aco,eD⟩;have eJ:=bQ.trans eD;rw[bcy,Lib.strCells_eq,Be]at aco;clear alX bQ eD;go_wp2_with fail
 go_loopw [17] (λi wr=>∃ k:Nat,k<=n/\i=.int .i64 (k:Int)/\Lib.BuilderAt 162 5 w.heap.size w.heap.size (.pointer (some ⟨w.heap.size,0,none⟩)) (Lib.byteCells (eL n++items (l.take k))) wr/\Below w.heap.size w wr) (λi _=>n-(intOf i).toNat)
 case atStart=>exact⟨0,ba1 _,rfl,by simpa[items]using aco,eJ⟩
 case round =>
  clear aco eJ;obtain⟨k,au,rfl,bB,ae⟩:=hrel;by_cases bW:k<n
  .obtain⟨b,o,rfl,hc⟩:=hr.2 GE;have js:k<l.length:=by rw[qE.out];exact bW
   have hx:=aAk ae (hc k _ (ai7 l k js)) (bcu w _ (hc k _ (ai7 l k js)));have V4:=U7 l[k] (bbl js);have MR:items (l.take (k+1))=items (l.take k)++eL (l' l[k]):=by rw[baI js,ad4]
   have ub:=bag MR;generalize l[k]=x at *
   have oL:=Mc x V4.1 V4.2;have aGM:=aEC x V4.1 V4.2;have aX1:=A' (l' x);have G8:=V' (l.take k);have an8:(l.take k).length<=k:=bdp _ _;clear MR;generalize l' x=y at *
   go_wp2_with fail
   refine(aGM _).mono ?_;rintro e w' ⟨rfl,rfl⟩;go_wp2_with fail
   refine(Xc y oL _ Z _).mono ?_;rintro e tO ⟨rfl,qN⟩;have Er:=aam bB qN;have Mt:=ae.trans (qN.mono ae.size);go_wp2_with fail
   refine(aui w.heap.size w.heap.size _ (strOf (eL y)) tO (.inr Er) (by rw[NC,Lib.byteCells_length];simp;omega) Mt.size).mono ?_;rintro e X1 ⟨rfl,alZ,Jo⟩;have Mu:=Mt.trans Jo;rw[Lib.strCells_eq,Be,<-Lib.byteCells_append,baO,<-ub.out]at alZ;clear bB Er ae qN Mt Jo;go_wp2_with fail
   go_roundw
   case rel=>exact⟨k+1,GE,by go_num,alZ,Mu⟩
   case measure=>simp[intOf];omega
  .obtain rfl:k=n:=GE
   rw[baE (by rw[qE.out];exact bao _)]at bB;go_wp2_with fail
   refine(Builder_String_any w.heap.size w.heap.size (eL k++items l) wr (.inr bB) ae.size).mono ?_;rintro e agb ⟨rfl,Vr⟩;go_wp2_with fail
   go_ret2
   refine⟨?_,ae.trans Vr⟩;unfold tJ strOf;rw[qE.out];rfl
def av1(s:ByteArray)(w:World)(e:Ending)(w':World):Prop :=
 ∃(a:List Int) (k:Int) (A:Option Addr) (n c:Nat),Dw s.data.toList a k/\e=.returned (.tuple #[.slice A n c,.int .i64 k])/\Own w' w.heap.size 3 1 S3 (.slice A n c) a.length (yE a)/\Below w.heap.size w w'
theorem aE3(s:ByteArray)(hs:s.size<=9223372036854775807)(w:World):Calls prog 68 #[.string s] w (av1 s w):=by
 obtain⟨i0,ao,sv,tx,tz⟩:=bc6 aI3;go_enter func68,ntmps68;go_wp2_with fail
 refine(alS s hs w).mono ?_;rintro e a8 ⟨n,rest,k,aZ,rfl,dx⟩;have mY:=bag aZ;by_cases au:k=0
 .subst au;obtain⟨VY,VN⟩:=alT aZ;have gO:=bag VY;have gx:=bag VN;have nT:rest.length<=s.size:=by
   have h:=bbh List.length VY;simp at h;have e:s.data.size=s.size:=rfl;omega
  clear VY aZ VN;by_cases hn:1000<n
  .have MM:(1000:Int)<(n:Int):=GE
   go_wp2_with fail
   go_ret2
   exact⟨[],2,none,0,0,aiF mY.out (.inr hn) GP,Z,Own.nil _ _ _ _ _,dx⟩
  .have MM:¬(1000:Int)<(n:Int):=GE
   go_wp2_with fail
   go_loopw [0,5,6,24] (λS E v i wr=>∃(j:Nat) (out:List Int) (r:List UInt8),j<=n/\i=.int .u64 (j:Int)/\S=.string (strOf r)/\E=.int .i64 0/\out.length=j/\Own wr w.heap.size 3 1 S3 v j (yE out)/\Below w.heap.size w wr/\
     Hid (s.data.toList=eL n++(items out++r))/\Hid (vE out)/\r.length<=s.size) (λ_ _ _ i _=>n-(intOf i).toNat)
   case atStart=>exact⟨0,[],rest,ba1 _,rfl,rfl,rfl,rfl,Own.nil _ _ _ _ _,dx,gO,(λx hx=>by cases hx),nT⟩
   case round =>
    clear dx gO nT;obtain⟨j,out,r,aB,rfl,rfl,rfl,adD,gF,ae,gO,oD,aX7⟩:=hrel;have bI:=bag adD;clear adD;by_cases bW:j<n
    .go_wp2_with fail
     refine(alS (strOf r) (by rw[NC];omega) wr).mono ?_;rintro e dn ⟨m,r2,eE,PT,rfl,bQ⟩;rw[Be]at PT;have eD:=ae.trans (bQ.mono ae.size);by_cases fJ:eE=0
     .subst fJ;obtain⟨adJ,VI⟩:=alT PT;have aIl:=aQs m VI;have Mw:=aQr m VI;have am5:=aEF m;have DJ:Hid (s.data.toList=eL n++(items (out++ [zo m])++r2)):=by
       show _=_;rw[gO.out,adJ,ad4,am5,baO]
      have awm:Hid (vE (out++ [zo m])):=by
       intro x hx;rcases bas.1 hx with h|h
       .exact oD.out x h
       .simp at h;subst h;exact Mw
      have aH3:r2.length<=s.size:=by
       have h:=bbh List.length adJ;simp at h;omega
      have anQ:=gF.O bQ;have mZ:=bag VI;clear adJ VI am5 PT Mw gF gO oD;generalize zo m=x at *
      have eJ:=eD.alloc eD.size (.cells #[.int .i64 x] 3);have anR:=anQ.O ((baL dn.heap.size dn).alloc (bao _) (.cells #[.int .i64 x] 3));have QO:Rd (dn.alloc (.cells #[.int .i64 x] 3)) 1 (some ⟨dn.heap.size,0,none⟩) 1 [.int .i64 x] :=
       ⟨rfl,λ_=>⟨dn.heap.size,0,rfl,λq u I=>by
        match q,I with
        | 0,I=>simp at I;subst I;simp⟩⟩
      have ahH:=bag anR;have awy:=bag QO;clear anQ anR QO;go_wp2_with fail
      refine(aIl _).mono ?_;rintro e w' ⟨rfl,rfl⟩;go_wp2_with (at_builtin;refine N4 _ rfl _ _ 22 rfl w.heap.size 3 i0 (.int .i64 0) 1 8 underlying22 ao sv tx tz rfl GP S3 ?g1 _ j (yE out) rfl ahH.out (some ⟨dn.heap.size,0,none⟩) 1 1 [.int .i64 x] rfl awy.out ?g2 ?g3 ?g4 ?g5 ?g6 ?_)
      case g1=>intro q u I;match q,I with|0,I=>exact⟨0,(bae I).symm⟩
      case g2=>intro u hu;simp at hu;subst hu;rfl
      case g3=>intro q u I;match q,I with|0,I=>exact⟨x,(bae I).symm⟩
      case g4=>unfold maxLen;omega
      case g5=>omega
      case g6=>exact eJ.size
      intro v' tO anS lj _ hl;have qN:=eJ.grown lj eJ.size (λq I=>(ahH.out.row.lt q I).1);rw[<-aAl]at anS;clear lj hl eJ eD bQ;go_wp2_with fail
      go_roundw
      case rel=>exact⟨j+1,out++ [x],r2,GE,by go_num,rfl,rfl,by simp[bI.out],anS,qN,DJ,awm,aH3⟩
      case measure=>simp[intOf];omega
     .have VD:(eE != 0)=true:=by rw[bdQ];exact fJ
      have jM:=bag fJ;have lg:=ayW gO.out gx.out oD.out (by rw[bI.out];exact bW) PT jM.out;have bg:=bag lg;clear fJ PT lg;go_wp2_with fail
      go_ret2
      exact⟨[],eE,none,0,0,bg.out,Z,Own.nil _ _ _ _ _,eD⟩
    .obtain rfl:j=n:=GE
     by_cases hr:r=[]
     .subst hr;have aa:(strOf []).toList=[]:=by rw[bct,Be]
      have ab:(!(strOf []).toList.isEmpty)=false:=by rw[bct,Be];rfl
      obtain⟨A,c,rfl,_⟩:=gF.shape;have k7:=bag (aFe gO.out oD.out bI.out GE);clear gO;go_wp2_with fail
      go_ret2
      exact⟨out,0,A,j,c,k7.out,Z,by rw[bI.out];exact gF,ae⟩
     .have aa:¬(strOf r).toList=[]:=by rw[bct,Be];exact hr
      have ab:(!(strOf r).toList.isEmpty)=true:=by rw[bct,Be];simpa using hr
      have k7:=bag (ayV (k:=4) gO.out gx.out oD.out bI.out hr GP);clear gO hr;go_wp2_with fail
      go_ret2
      exact⟨[],4,none,0,0,k7.out,Z,Own.nil _ _ _ _ _,ae⟩
 .have VD:(k != 0)=true:=by rw[bdQ];exact au
  have aG9:(k == 0)=false:=by rw[bbG];exact au
  have jM:=bag au;clear au aZ;go_wp2_with fail
  go_ret2
  exact⟨[],k,none,0,0,aiF mY.out (.inl jM.out) jM.out,Z,Own.nil _ _ _ _ _,dx⟩
end Go.Proofs.YtooonebcoaleiaaGreat.Pack
namespace Go.Proofs.YtooonebcoaleiaaGreat
open Tryz
section
variable{w:World}
open Go.RowKit Go.Proofs.YtooonebcoaleiaaGreat.fg
def kY:τ (BitVec 64):=τ.flat 1 (λ b=> [.int .u64 (U b)]) (λ _=>True) (λ _ u=>∃ n:Int,u=.int .u64 n) (λ _=>rfl) (by intro a u c;simp at c;subst c;rfl) (by
 intro a j u c;cases j with
 | zero=>simp at c;exact⟨_,c.symm⟩
 | succ j=>simp at c)
def amL{cs:List Value}{a:BitVec 64}(h:kY.bv w cs a):cs=[.int .u64 (U a)]:=bcs (show cs=[.int .u64 (U a)]/\True from h)
def V9:(prog.info? 129).map (λ i=>(i.zero,i.size,i.bytes))=some (some (.int .u64 0),1,8):=GT
def Xn:∀(j:Nat) u,(Value.int .u64 0).cells[j]? =some u->kY.raw j u:=by
 intro j u a;have a:(#[(.int .u64 0:Value)]:Array Value)[j]? =some u:=a
 match j,a with
 | 0,a=>exact⟨0,(bae a).symm⟩
 | j+1,a=>simp at a
def aO8{by_:Nat}{A:Option Addr}{c:Nat}{l:List (BitVec 64)}(h:kY.aF by_ w A c l):Mark.vI w A l.length l:=by
 refine⟨Z,h.M,?_⟩;cases a:l with
 | nil=>exact .inl rfl
 | cons x r =>
  rw[<-a];obtain⟨b,o,e,g⟩:=h.d9 (by rw[a];simp);refine .inr ⟨b,o,e,λ i f=>?_⟩;obtain⟨es,⟨rfl,_⟩,d⟩:=g i _ (bac f);have:=d 0 _ rfl;simpa[kY,τ.flat]using this
def alw{w:World}:∀ {ess:List (List Value)} {l:List Int},dX (λ es a=>bN.bv w es a) ess l->ess.flatten=l.map (Value.int .i64)
 | [],[],_=>rfl
 | es::ess,a::l,h=>by
  obtain⟨b,c⟩:=h;rw[bbc,ew b,alw c];rfl
 | [],_::_,h=>h.elim
 | _::_,[],h=>h.elim
def CW(l:List Int):List UInt8:=if l.length<=1000 then Pack.tJ l else[]
def ll(l:List Int):BitVec 64:=Tree.AT (CW l)
def arh(l:List Int):(CW l).length<=20000:=by
 unfold CW;split
 .rename_i h
  unfold Pack.tJ;rw[bam];have:=(Pack.A' l.length).1;have:=Pack.V' l;omega
 .simp
theorem aMk(l:List Int)(A:Option Addr)(c:Nat)(w:World)(h:bN.aF 8 w A c l):Calls prog 61 #[.slice A l.length c] w λ e w'=>(∃ k,e=.returned (.tuple #[.string (Pack.strOf (CW l)),.int .i64 k]))/\Ext w w':=by
 unfold CW;by_cases a:l.length<=1000
 .rw[bap a];have f:Rd w 1 A l.length (yE l):=by
   obtain⟨m,n,i,j,ess,d,b⟩:=h;rw[alw d]at b;exact b
  exact(Pack.arH A l.length c l Z a (λ x g=>b7.1 (Kn h x g)) w f).mono λ e w' h=>⟨⟨0,h.1⟩,h.2⟩
 .rw[ban a];exact(Pack.aMX A l.length c GE w).mono λ e w' h=>⟨⟨2,h.1⟩,by rw[<-h.2];exact Ext.U w⟩
def aJ8(s:List UInt8)(a:s.length<=20000)(w:World):Calls prog 128 #[.string (Pack.strOf s)] w λ e w'=>e=.returned (.int .u64 (U (Tree.AT s)))/\Ext w w':=by
 refine(Tree.M3 (Pack.strOf s) (by rw[Pack.NC];omega) w).mono ?_;rintro e w' ⟨rfl,q,rfl⟩;exact⟨by rw[Pack.Be],below_drewN (baL _ w) q⟩
def aLT(l:List (BitVec 64))(A:Option Addr)(c:Nat)(w:World)(h:kY.aF 8 w A c l):Calls prog 97 #[.slice A l.length c] w λ e w'=>e=.returned (.int .u64 (U (Mark.Kb Mark.mix l)))/\Ext w w':=Mark.aeS A l.length c l w (aO8 h)
def WQ(W:ag):BitVec 64:=ll ([1,W.am.O,W.am.high,W.next,W.db]++W.am.G)
def WO(W:ag)(i:Nat):BitVec 64:=ll [2,(i:Int),(W.aT.getD i default).x,(W.aT.getD i default).y,W.bl.getD i 0]
def E3(W:ag):Nat->List (BitVec 64)
 | 0=> []
 | k+1=>E3 W k++(if W.bE.getD k 0=0 then[]else[ll [3,(k:Int),W.bE.getD k 0]])
def Rp(t:bb):BitVec 64:=ll [4,t.id,t.H,t.O,t.an.x,t.an.y,t.K,t.load]
def E1(W:ag)(k:Nat):List (BitVec 64):=[WQ W]++(List.range k).map (WO W)
def marks(W:ag):List (BitVec 64):=E1 W W.aT.length++E3 W W.bE.length++W.ah.map Rp
def uV(W:ag):BitVec 64:=if W.br=0 then Mark.Kb Mark.mix (marks W)else 0#64
def aKR(W:ag)(k:Nat):E1 W (k+1)=E1 W k++ [WO W k]:=by
 unfold E1;rw[bbS,baJ,<-baO];rfl
def aeM(W:ag):∀ k,(E3 W k).length<=k
 | 0=>bao 0
 | k+1=>by
  have:=aeM W k;rw[E3,bam];split<;>simp<;>omega
def aeH(W:ag)(k:Nat):(E1 W k).length=k+1:=by unfold E1;simp
def aK3{l:List bb}{k:Nat}{t:bb}(a:k<l.length)(b:l.getD k default=t):(l.take (k+1)).map Rp=(l.take k).map Rp++ [Rp t]:=by
 rw[<-b,baa,bac a,<-bcT a,baJ];rfl
end
section
def ad2:(prog.info? 76).map (λ i=>(i.zero,i.size,i.bytes))=some (some (.slice none 0 0),1,24):=GT
def lU(w:World)(T:List gV)(L:List (List aS)):Prop:=T.length=L.length/\∀(i:Nat) (v:gV),T[i]? =some v->∃ l:List aS,L[i]? =some l/\v.n=l.length/\aS.ce.aF 48 w v.a v.c l
section
variable{w w':World}{T lT:List gV}{L zP:List (List aS)}{W:ag}{l:List aS}{k:Nat}{e:Int}{V:ag}{ms:List (BitVec 64)}
def lU.be(h:lU w T L)(e:Ext w w'):lU w' T L:=⟨h.1,λ i v c=>by
 obtain⟨l,a,b,d⟩:=h.2 i v c;exact⟨l,a,b,d.be e⟩⟩
def lU.nil:lU w [] []:=⟨rfl,λ i v h=>by simp at h⟩
def lU.one{A:Option Addr}{c:Nat}(h:aS.ce.aF 48 w A c l):lU w [⟨A,l.length,c⟩] [l]:=⟨rfl,λ i v a=>by
 match i,a with
 | 0,a=>obtain rfl:=(bae a);exact⟨l,Z,Z,h⟩⟩
def lU.d9(h:lU w T L)(g:k<T.length):∃ A c l,T[k]? =some ⟨A,l.length,c⟩/\L[k]? =some l/\aS.ce.aF 48 w A c l:=by
 obtain⟨v,e⟩:∃ v,T[k]? =some v:=⟨_,bac g⟩;obtain⟨l,f,b,d⟩:=h.2 k v e;obtain⟨a,n,c⟩:=v;dsimp only at b d;subst b;exact⟨a,c,l,e,f,d⟩
noncomputable def qj(W:ag)(L:List (List aS)):ag:=L.foldl oU W
noncomputable def Bc(W:ag):List (List aS)->List (BitVec 64)
 | []=> [uV W]
 | l::r=>uV W::Bc (oU W l) r
noncomputable def lI(W:ag):List (List aS)->Int
 | []=>0
 | l::r=>if ji W l≠0 then ji W l else lI (oU W l) r
def Ge(W:ag)(L:List (List aS))(e:Int)(V:ag)(a:List (BitVec 64)):Prop:=(e=0/\L.length<=200/\W.br=0/\lI W L=0/\V=qj W L/\a=Bc W L)\/(e≠0/\(200<L.length\/W.br≠0\/lI W L≠0)/\V=ag.zero/\a=[])
def asc:qj W (L++zP)=qj (qj W L) zP:=bbZ
def ase:∀(L:List (List aS)) (W:ag),(Bc W L).length=L.length+1
 | [],_=>rfl
 | l::r,W=>by rw[Bc,baj,baj,ase r]
def asf:∀(L:List (List aS)) (W:ag),Bc W (L++ [l])=Bc W L++ [uV (oU (qj W L) l)]
 | [],_=>rfl
 | l::r,W=>by rw[bcq,Bc,Bc,asf r];rfl
def RG:∀(L:List (List aS)) (W:ag),lI W (L++zP)=if lI W L≠0 then lI W L else lI (qj W L) zP
 | [],W=>by rw[bcy];unfold lI;rw[ban Kx];rfl
 | l::r,W=>by
  rw[bcq,lI,lI];by_cases h:ji W l≠0
  .rw[bap h,bap h,bap h]
  .rw[ban h,ban h,RG r];rfl
def Xr:lI W [l]=ji W l:=by
 unfold lI;split
 .rfl
 .rename_i h;unfold lI;have:ji W l=0:=by simpa using h
  rw[this]
def C2{a:Type}{L:List a}{l:a}(h:L[k]? =some l):L.take (k+1)=L.take k++ [l]:=by
 have e:=(bab.1 h).2;rw[<-e,bcT]
def afv(a:lI W (L.take k)=0)(b:L[k]? =some l):lI W (L.take (k+1))=ji (qj W (L.take k)) l:=by
 rw[C2 b,RG,ban (by simpa using a),Xr]
def Xs(a:lI W (L.take k)≠0):lI W L≠0:=by
 have:L=L.take k++L.drop k:=(bbU k L).symm;rw[this,RG,bap a];exact a
def Ge.ok(h:Ge W L e V ms)(a:e=0):L.length<=200/\W.br=0/\lI W L=0/\V=qj W L/\ms=Bc W L:=by
 rcases h with⟨_,h⟩|⟨b,_⟩
 .exact h
 .exact absurd a b
def Ge.zero(h:Ge W L e V ms)(d:L.length<=200)(f:W.br=0)(g:lI W L=0):e=0/\V=qj W L/\ms=Bc W L:=by
 rcases h with⟨b,_,_,_,a,c⟩|⟨_,a,_⟩
 .exact⟨b,a,c⟩
 .omega
end
end
end Go.Proofs.YtooonebcoaleiaaGreat
