import Derived.Test.YtmeeljmapailnaaGreatOrw
set_option linter.unusedVariables false
set_option linter.unusedSimpArgs false
set_option maxRecDepth 100000
set_option maxHeartbeats 4000000
open Go.RowKit
namespace Go.Proofs.YtmeeljmapailnaaGreat
open Tryz
abbrev aXH:=@List.mem_flatMap
abbrev aYL:=@List.map_replicate
section
theorem apZ:G6 prog aN.cells 69 :=by
 intro a b w;obtain ⟨a0,cF,a2,⟨a3,a4⟩,a5⟩:=a;obtain ⟨Hr,hL,dH,⟨gy,y9⟩,Hs⟩:=b;simp only [aN.cells,aN.mk.injEq,az.mk.injEq];constructor
 ·go_simp
  repeat' split
  all_goals simp_all
 ·go_simp
  repeat' split
  all_goals simp_all
theorem apY:(prog).eqGuardType (prog).depth 69 =false:=by kernel_rfl
theorem ads {α:Type} (n:Nat):∀ (q:Nat) (l:List α),l.length=q * n→((List.finRange q).flatMap λ k=>(l.drop (k.1 * n)).take n)=l
 | 0,l,h=>by
  have:l= []:=aT7 (by omega);subst this;rfl
 | q+1,l,h=>by
  rw [aVj] at h;have bK:=ads n q (l.drop n) (by rw [aTW];omega);rw [List.finRange_succ,aVf,List.flatMap_map];have e:(λ k:Fin q=>(l.drop (k.succ.1 * n)).take n)=λ k:Fin q=>((l.drop n).drop (k.1 * n)).take n:=by
   funext k
   rw [aUZ];congr 2;show (k.1+1) * n=_;rw [aVj];omega
  show (l.drop (0 * n)).take n++((List.finRange q).flatMap λ k:Fin q=>(l.drop (k.succ.1 * n)).take n)=l;rw [e,bK,aYi,aWh,aVb]
theorem R5 (o:aN) (l:List aN):nums (o::l)=o.by_::o.kind::o.aW::o.spot.x::o.spot.y::o.what::nums l:=rfl
theorem akd:∀ {a b:List aN},nums a=nums b→a=b
 | [], [],_=>rfl
 | [],o::b,h=>by rw [R5] at h;exact nomatch h
 | o::a, [],h=>by rw [R5] at h;exact nomatch h
 | o::a,p::b,h=>by
  rw [R5,R5] at h;injection h with τ h
  injection h with ae h
  injection h with aw h
  injection h with aU h
  injection h with bz h
  injection h with cb h
  have e:o=p:=by
   obtain ⟨cF,a2,a3,⟨a4,a5⟩,Hn⟩:=o;obtain ⟨c1,c2,c3,⟨c4,c5⟩,dQ⟩:=p;simp only at τ ae aw aU bz cb;subst τ ae aw aU bz cb;rfl
  rw [e,akd h]
theorem aA8 {l:List Int} (h:l.length=6): [l.getD 0 0,l.getD 1 0,l.getD 2 0,l.getD 3 0,l.getD 4 0,l.getD 5 0]=l:=by
 match l,h with
 | [a,b,c,d,e,f],_=>rfl
theorem ake {out:List Int} {q:Nat} (h:out.length=q * 6):nums (I4 out q)=out:=by
 have e:nums (I4 out q)=(List.finRange q).flatMap λ k=>(out.drop (k.1 * 6)).take 6:=by
  unfold nums I4;rw [List.flatMap_map];have bb:(λ k:Fin q=> [(xY (fz out k.1)).by_,(xY (fz out k.1)).kind,(xY (fz out k.1)).aW,(xY (fz out k.1)).spot.x,(xY (fz out k.1)).spot.y,(xY (fz out k.1)).what])=λ k:Fin q=>(out.drop (k.1 * 6)).take 6:=by
   funext k
   have au:=k.2;have cb:=adr (l:=out) (k:=k.1) (by omega);have ej:fz out k.1=(out.drop (k.1 * 6)).take 6:=by unfold fz;congr 1;omega
   rw [← ej];exact aA8 cb
  exact aUF (λ f=>(List.finRange q).flatMap f) bb
 rw [e];exact ads 6 q out h
theorem aCq {l:List aN} (h:∀ o∈l,o.ok):sF (nums l):=by
 intro x hx;obtain ⟨o,cc,hx⟩:=aXH.1 hx;obtain ⟨Ga,pa,lV,nF,og,qd⟩:=h o cc;simp only [aTZ,aU8,aVV] at hx;rcases hx with rfl | rfl | rfl | rfl | rfl | rfl
 ·exact bY.1 Ga
 ·exact bY.1 pa
 ·exact bY.1 lV
 ·exact bY.1 nF
 ·exact bY.1 og
 ·exact bY.1 qd
theorem Zk {l m:List aN} {k:Int} (h:iG l=0) (eA:∀ o∈l,o.ok) (hR:CO (jO l) m k):k=0∧m=l:=by
 have hw:=Tp h;have hn:=R6 l;have xo:=(Na h).1;have cc:kI.lW (jO l)=(Pack.strOf (Pack.qX (nums l)),0):=by rw [hw];exact kI.aCK _
 have I:(nums l).length=l.length * 6:=by omega
 have hf:Gd (nums l)=l:=by
  rw [I3 I];exact akd (ake I)
 rcases hR with ⟨τ,_⟩ | ⟨_,out,j,bQ,ae⟩
 ·rw [cc] at τ;exact absurd Z τ
 ·rw [cc] at bQ;obtain ⟨aA,rfl⟩:=Pack.awv (aCq eA) (by omega) bQ;rcases ae with ⟨aw,_⟩ | ⟨_,aw,_⟩ | ⟨_,_,⟨aw,_⟩ | ⟨aw,aU,bz⟩⟩
  ·exact absurd aA aw
  ·omega
  ·rw [hf] at aw;exact absurd h aw
  ·exact ⟨bz,by rw [aU,hf]⟩
theorem aEi {s:ByteArray} {m:List aN} {k:Int} (hR:CO s m k):(k=0→iG m=0∧jO m=s)∧(k≠0→m= []):=by
 rcases hR with ⟨τ,ae,aw⟩ | ⟨τ,out,j,bQ,ae⟩
 ·exact ⟨λ h=>absurd (aw ▸ h) τ,λ _=>ae⟩
 ·rcases ae with ⟨aw,aU,bz⟩ | ⟨_,aw,aU,bz⟩ | ⟨aA,cb,⟨aw,aU,bz⟩ | ⟨aw,aU,bz⟩⟩
  ·exact ⟨λ h=>absurd (bz ▸ h) aw,λ _=>aU⟩
  ·exact ⟨λ h=>by omega,λ _=>aU⟩
  ·exact ⟨λ h=>absurd (bz ▸ h) aw,λ _=>aU⟩
  ·refine ⟨λ _=> ?_,λ h=>absurd bz h⟩;subst aU;refine ⟨aw, ?_⟩;have I:out.length=(out.length / 6) * 6:=by omega
   rw [Tp aw,I3 I,ake I,← (bQ.2.1 aA).1];rcases kI.akt s with ⟨_,ej⟩ | ⟨ej,_⟩
   ·exact ej
   ·omega
theorem am5 (l:List aN):(jO l).size≤140737488351232:=by
 by_cases h:iG l=0
 ·have τ:=(Na h).1;have ae:=R6 l;have aw:=Pack.akR (nums l);rw [Tp h,kI.Sv,Pack.Jl];omega
 ·rw [am4 h];decide
def aQU:List aN:= [⟨1,2,7,⟨2, -1⟩,0⟩]
theorem ae8 (A B:Option Addr) (c d hL dH:Nat) (l m:List aN) (w:World) (τ:aN.rep.aG hL w A c l) (ae:aN.rep.aG dH w B d m):
  Calls prog 72 #[.slice A l.length c, .slice B m.length d] w (λ e w'=>e= .returned (.bool (decide (l=m)))∧Ext w w'):=by
 have hle:=τ.eZ;refine b' (n:=26) func72 Z Z Z ?_;refine ah<|va Z<|ag<|ay<|ah<|vm Z<|Φ (cl underlying48 Z)<|vm Z<|Φ (cl underlying48 Z)<|Φ (bne Z Z)<|ag<| ?_;refine ee Z (λ gA=> ?_) (λ gA=> ?_)
 ·refine ah<|va Z<|ag<|rt<|bP<|aV (.tmp Z .nil)<| ?_;rw [aT4 (λ e=>gA (by rw [e]))];exact ⟨Z,(Ext.bg w)⟩
 ·refine bl<|ay<|ah<|vm Z<|Φ (cl underlying48 Z)<|vm Z<|ag<|bu<| ?_;refine dx (λ bZ bS aL=>∃ k:Nat,bS= [(0, .slice A l.length c),(1, .slice B m.length d),(12,J (l.length:Int)),(13,J (k:Int))]∧bZ=l.length - k∧Ext w aL∧(k≤l.length)∧(∀ j,j<k→l[j]? =m[j]?)) _ _ ⟨0,Z,Z,(Ext.bg w),by omega,λ j aA=>absurd aA (by omega)⟩ (.cons Z (.cons Z (.cons Z (.cons (bH Z) .nil)))) ?_;rintro r3 rf iH ⟨k,rfl,rfl,b9,au,ff⟩;have hle:=τ.eZ;refine ah<|Φ (blt Z Z)<|ag<|ay<| ?_;refine df Z (λ jr=> ?_) (λ jr=> ?_)
  ·obtain ⟨d_,fB⟩:=gH (l:=l) (i:=k) (by omega);obtain ⟨nR,lj⟩:=gH (l:=m) (i:=k) (by omega);refine bl<|ay<|bu<|ah<|vm Z<|va Z<|ag<|ay<| ?_;refine cR [(3,0),(7,0)] [0,1,2,3,4,5,6,7,8] ?_;refine a1 Z Z<|a1 Z Z<|aB Z (λ _=>bT k underlying48 fl Z Z ((τ.keep b9).bs (aO k)) Z (by omega))<|bx Z (λ _ x=>ao Z (aa.aG.er Fz ((τ.keep (ab b9 x)).cg (aO k)) fB jc fl))<|a1 Z Z<|a1 Z Z<|aB Z (λ _=>bT k underlying48 fl Z Z ((ae.keep b9).bs (aO k)) Z (by omega))<|bx Z (λ _ x=>ao Z (aa.aG.er Fz ((ae.keep (ab b9 x)).cg (aO k)) lj jc fl))<|aB Z (λ _=>KI apZ apY (p:=d_) (q:=nR) Z Z)<|fn λ wq mq=> ?_;have iZ:=ab b9 mq;refine aP<| ?_;refine dn Z (λ eL=> ?_) (λ eL=> ?_)
   ·refine ah<|va Z<|ag<|rt<|dV<|bP<|kB<|dV<|bP<|aV (.tmp Z .nil)<| ?_;rw [aT4 (λ e=>by rw [e,lj] at fB;injection fB with fB;exact absurd fB.symm (by first | exact IX eL | exact eL))];exact ⟨Z,iZ⟩
   ·refine ei<|bU<|aP<|rg<|Φ (bad Z Z (bf (by omega)))<|vm Z<|nl<| ?_;exact cD _ _ ⟨k+1,Z,Z,iZ,by omega,o4 ff (by rw [fB,lj,(by first | exact HR eL | exact eL:d_=nR)])⟩ (by omega) (.cons Z (.cons Z (.cons Z (.cons (bH Z) .nil))))
  ·refine cV<|cU<|c'<|cT<|aP<|ah<|va Z<|ag<|rt<|aV (.tmp Z .nil)<| ?_;rw [aT3 (HQ (by omega) (by omega) ff)];exact ⟨Z,b9⟩
end
section
theorem Xz {w:World} {cs:List Value} {a:ByteArray} (h:mj.has w cs a):cs= [.string a]:=aVP (show cs= [.string a]∧a.size≤140737488351232 from h)
theorem aEg:∀ (j:Nat) u,(Value.string .empty).cells[j]? =some u→mj.raw j u:=by
 intro j u hu;have hu:(#[(Value.string .empty:Value)]:Array Value)[j]? =some u:=hu
 match j,hu with
 | 0,hu=>exact ⟨_,(aTA hu).symm,by decide⟩
 | j+1,hu=>cases hu
theorem aAe:(prog.info? 9).map (λ i=>(i.zero,i.size,i.bytes))=some (some (.string .empty),1,16):=by kernel_rfl
end
end Go.Proofs.YtmeeljmapailnaaGreat
namespace Go.Proofs.YtmeeljmapailnaaGreat.Tree
open Tryz
open Go.RowKit Go.Proofs.YtmeeljmapailnaaGreat Go.Proofs.YtmeeljmapailnaaGreat.ey Go.Proofs.YtmeeljmapailnaaGreat.Mark
def H0 (k:Nat):Nat→List (List UInt8)→List de
 | 0,_=> []
 | e+1,l=>if k.testBit e then Sp (l.take (2 ^ e))::H0 k e (l.drop (2 ^ e)) else H0 k e l
def PM (l:List de):List Value:=l.map fun x=>Value.int .u64 (U x)
def GW (_:Nat) (u:Value):Prop:=∃ n:Int,u= .int .u64 n
def aKd (k:Nat) (l:List ByteArray) (w:World) (e:Ending) (w':World):Prop :=
 ∃ A c,e= .returned (.tuple #[.slice A (H0 k 9 (lists l)).length c, .int .i64 0])∧Own w' w.heap.size 130 1 GW (.slice A (H0 k 9 (lists l)).length c) (H0 k 9 (lists l)).length (PM (H0 k 9 (lists l)))∧Below w.heap.size w w'
end Go.Proofs.YtmeeljmapailnaaGreat.Tree
namespace Go.Proofs.YtmeeljmapailnaaGreat
open Tryz
end Go.Proofs.YtmeeljmapailnaaGreat
namespace Go.Proofs.YtmeeljmapailnaaGreat.Tree
open Tryz
open Go.RowKit Go.Proofs.YtmeeljmapailnaaGreat Go.Proofs.YtmeeljmapailnaaGreat.ey Go.Proofs.YtmeeljmapailnaaGreat.Mark
def aAo:List de→de
 | []=>0#64
 | x::r=>match r with
  | []=>x
  | y::t=>I8 x (aAo (y::t))
def aKe (w:World) (e:Ending) (w':World):Prop:=∃ (A:Option Addr) (n c:Nat) (k:Int),e= .returned (.tuple #[.slice A n c, .int .i64 k])∧Below w.heap.size w w'
def GS (_:Nat) (u:Value):Prop:=∃ s:ByteArray,u= .string s
def aJt (w:World) (n:Nat) (l:List ByteArray) (e:Ending) (w':World):Prop :=
 ∃ A c,e= .returned (.slice A n c)∧Own w' w.heap.size 9 1 GS (.slice A n c) n (ar9 l)∧Below w.heap.size w w'
end Go.Proofs.YtmeeljmapailnaaGreat.Tree
namespace Go.Proofs.YtmeeljmapailnaaGreat
open Tryz
end Go.Proofs.YtmeeljmapailnaaGreat
namespace Go.Proofs.YtmeeljmapailnaaGreat.Tree
open Tryz
open Go.RowKit Go.Proofs.YtmeeljmapailnaaGreat Go.Proofs.YtmeeljmapailnaaGreat.ey Go.Proofs.YtmeeljmapailnaaGreat.Mark
def HE:Nat→de→Nat→Nat→List de→de×Bool
 | 0,m,_,_,t=>(m,t.isEmpty)
 | f+1,m,at_,n,t =>
  if n=1 then (m,t.isEmpty) else
  match t.getLast? with
  | none=>(0#64,false)
  | some x=>if at_<lX n then (I8 (HE f m at_ (lX n) t.dropLast).1 x,(HE f m at_ (lX n) t.dropLast).2)
   else (I8 x (HE f m (at_ - lX n) (n - lX n) t.dropLast).1,(HE f m (at_ - lX n) (n - lX n) t.dropLast).2)
def aJs (w:World) (r:de×Bool) (e:Ending) (w':World):Prop:=e= .returned (.tuple #[.int .u64 (U r.1), .bool r.2])∧w=w'
def ahi (root:de) (s:List UInt8) (at_ n:Nat) (t:List de):Bool:=(HE n (DI s) at_ n t).2 && decide ((HE n (DI s) at_ n t).1=root)
end Go.Proofs.YtmeeljmapailnaaGreat.Tree
namespace Go.Proofs.YtmeeljmapailnaaGreat
open Tryz
end Go.Proofs.YtmeeljmapailnaaGreat
namespace Go.Proofs.YtmeeljmapailnaaGreat.Tree
open Tryz
open Go.RowKit Go.Proofs.YtmeeljmapailnaaGreat Go.Proofs.YtmeeljmapailnaaGreat.ey Go.Proofs.YtmeeljmapailnaaGreat.Mark

def SH:Nat→List (List UInt8)→Nat→List de
 | 0,_,_=> []
 | f+1,l,at_=>if l.length=1 then [] else
  if at_<lX l.length then SH f (l.take (lX l.length)) at_++ [Sp (l.drop (lX l.length))]
  else SH f (l.drop (lX l.length)) (at_ - lX l.length)++ [Sp (l.take (lX l.length))]
def aKN (w:World) (t:List de) (e:Ending) (w':World):Prop:=∃ A c,e= .returned (.slice A t.length c)∧Own w' w.heap.size 130 1 GW (.slice A t.length c) t.length (PM t)∧Below w.heap.size w w'
end Go.Proofs.YtmeeljmapailnaaGreat.Tree
namespace Go.Proofs.YtmeeljmapailnaaGreat
open Tryz
end Go.Proofs.YtmeeljmapailnaaGreat
namespace Go.Proofs.YtmeeljmapailnaaGreat.Tree
open Tryz
open Go.Proofs.YtmeeljmapailnaaGreat.ey Go.Proofs.YtmeeljmapailnaaGreat.Mark

def aee:Nat→Nat→Nat→Nat
 | 0,_,_=>0
 | f+1,at_,n=>if n=1 then 0 else if at_<lX n then aee f at_ (lX n)+1 else aee f (at_ - lX n) (n - lX n)+1
def alD:Nat→Nat→Nat→List Bool
 | 0,_,_=> []
 | f+1,at_,n=>if n=1 then [] else if at_<lX n then alD f at_ (lX n)++ [false] else alD f (at_ - lX n) (n - lX n)++ [true]
def aFU (m:de) (x:Bool×de):de:=if x.1 then I8 x.2 m else I8 m x.2
def along (sd:List Bool) (t:List de) (m:de) (k:Nat):de:=((sd.zip t).take k).foldl aFU m
end Go.Proofs.YtmeeljmapailnaaGreat.Tree
namespace Go.Proofs.YtmeeljmapailnaaGreat
open Tryz
end Go.Proofs.YtmeeljmapailnaaGreat
namespace Go.Proofs.YtmeeljmapailnaaGreat.Tree
open Tryz
open Go.RowKit Go.Proofs.YtmeeljmapailnaaGreat Go.Proofs.YtmeeljmapailnaaGreat.ey Go.Proofs.YtmeeljmapailnaaGreat.Mark

def aKO (w:World) (t:List de) (e:Ending) (w':World):Prop:=∃ A c,e= .returned (.tuple #[.slice A t.length c, .int .i64 0])∧Own w' w.heap.size 130 1 GW (.slice A t.length c) t.length (PM t)∧Below w.heap.size w w'
def aJu (w:World) (n:Nat) (l:List de) (e:Ending) (w':World):Prop :=
 ∃ A c,e= .returned (.slice A n c)∧Own w' w.heap.size 130 1 GW (.slice A n c) n (PM l)∧Below w.heap.size w w'
end Go.Proofs.YtmeeljmapailnaaGreat.Tree
namespace Go.Proofs.YtmeeljmapailnaaGreat
open Tryz
section
open Go.Proofs.YtmeeljmapailnaaGreat.ey
def aKM (l:List ByteArray) (n k:Int) (t:List (BitVec 64)):Prop:=(k=0∧0≤n∧n<(l.length:Int)∧t=Tree.SH l.length (Tree.lists l) n.toNat)∨(k≠0∧¬(0≤n∧n<(l.length:Int))∧t= [])
def aKF (W:ak) (L:List (List aN)) (n e:Int) (r:BitVec 64):Prop :=
 (e=0∧u' W L∧0≤n∧n≤(L.length:Int)∧r=Tree.Sp (Tree.lists ((L.take n.toNat).map jO)))∨(e≠0∧¬(u' W L∧0≤n∧n≤(L.length:Int))∧r=0)
def acr (W:ak) (L:List (List aN)) (n e:Int) (s:ByteArray) (t:List (BitVec 64)):Prop :=
 (e=0∧u' W L∧0≤n∧n<(L.length:Int)∧s=(L.map jO).getD n.toNat ByteArray.empty∧t=Tree.SH (L.map jO).length (Tree.lists (L.map jO)) n.toNat)∨(e≠0∧¬(u' W L∧0≤n∧n<(L.length:Int))∧s=Hu []∧t= [])
def aKL (r:BitVec 64) (n at_:Int) (s:ByteArray) (t:List (BitVec 64)) (m:List aN) (k:Int) (b:Bool):Prop :=
 (Tree.ahi r s.data.toList at_.toNat n.toNat t=true∧CO s m k∧b=(k == 0))∨(Tree.ahi r s.data.toList at_.toNat n.toNat t=false∧m= []∧b=false∧k=0)
end
section
open Go.Proofs.YtmeeljmapailnaaGreat.ey
theorem awm (L:List (List aN)) {i:Nat} (h:i<L.length):(L.map jO).getD i ByteArray.empty=jO (L.getD i []):=by
 rw [aTB,aTB,aTY,aTF h];rfl
theorem acr.size {W:ak} {L:List (List aN)} {n e:Int} {s:ByteArray} {t:List (BitVec 64)} (h:acr W L n e s t):s.size≤140737488351232:=by
 rcases h with ⟨_,_,aK,τ,ae,_⟩ | ⟨_,_,ae,_⟩
 ·rw [ae,awm L (by omega)];exact am5 _
 ·rw [ae];decide
def aSa:List (List aN):= [nK, []]
end
section
theorem KM (A:Option Addr) (c:Nat) (l:List aN) (w:World) (h:aN.rep.aG 48 w A c l):
  Calls prog 90 #[.slice A l.length c] w λ e w'=>∃ bL bX,e= .returned (.slice bL l.length bX)∧aN.rep.aH 69 48 w' w.heap.size (aa.aj bL) bL bX l∧(bL=none↔A=none)∧Below w.heap.size w w':=by
 obtain ⟨i0,ar,oa,mf,o1⟩:=aV0 aN.info;have Nh:∀ (w:World) (a:Option Addr) (n c hT bX:Nat),(binOp .eql 48 (.slice a n c) (.slice none hT bX)).run prog w= .ok (.bool a.isNone) w:=λ w a n c hT bX=>aVv w _ _ a n c hT bX underlying48;cases A with
 | none =>
  obtain rfl:c=0:=h.2.2.2.1 rfl;obtain rfl:l= []:=aT7 (by have:=h.1;omega);go_enter func90,ntmps90;go_wp2_with fail
  go_ret;exact ⟨none,0,Z,aa.aH.nil _,by simp,aUb _ _⟩
 | some a =>
  have cN:Below w.heap.size w (w.alloc (.cells #[] 69)):=(aUb _ w).alloc (aTK _) _;obtain ⟨n,eJ⟩:∃ n,Hid (l.length=n):=⟨_,aTG rfl⟩;obtain ⟨τ,ae,aw,aU,ess,bz,cb⟩:=h.keep cN;have uR:=aTG bz;have mS:∀ u∈ess.flatten,u.oneCell'=true:=by
   intro u hu;obtain ⟨y,aF,hu⟩:=aUN.1 hu;obtain ⟨a,ha⟩:=bz.left y aF;exact aN.rep.one ha u hu
  have n':∀ (j:Nat) u,ess.flatten[j]? =some u→aN.rep.raw (j % aN.rep.size) u:=λ j u hu=>Fg bz (by decide) hu;rw [eJ.out] at τ aw cb;have dr:=aTG cb;have i_:=aTG (Own.empty (e:= 69) (size:=aN.rep.size) (G:=aN.rep.raw) w (aTK w.heap.size));clear h aU bz cb;rw [eJ.out];go_enter func90,ntmps90;go_wp2_with (at_builtin;refine GG _ rfl _ _ 48 rfl w.heap.size 69 i0 aN.zero aN.rep.size 48 underlying48 ar oa mf o1 rfl (by decide) aN.rep.raw aN.ix _ _ _ rfl i_.out (some a) n c ess.flatten rfl dr.out mS n' ?qc4 ?qc5 ?qc6 ?_)
  case qc4=>unfold maxLen;omega
  case qc5=>omega
  case qc6=>simp
  intro v' aS eT iU lF fA;have c8:=cN.grown iU (by simp) (by intro k au;simp [Value.ownBlock] at au;omega);obtain ⟨cw,c1,rfl,hle,_,_,_,kv⟩:=eT.shape;have jU:cw≠none:=by
   intro h;subst h;exact lF (kv Z)
  have aX:Hid (aN.rep.aH 69 48 aS w.heap.size (aa.aj cw) cw c1 l):=aTG (aa.aH.zS aN.plain uR.out (by rw [eJ.out];exact aw) (by rw [eJ.out];simpa using eT));have rh:=aTG jU;clear iU lF fA eT jU kv mS n';go_wp2_with fail
  go_ret;exact ⟨cw,c1,Z,aX.out,⟨λ h=>absurd h rh.out,λ h=>by cases h⟩,c8⟩
end
section
theorem acs:fi prog m2 30 48 24:=fi.lH (z:= .slice none 0 0) (k:=1) underlying30 Yu rfl rfl (by decide) (λ j u h=>ZG j u h)
open Go.Proofs.YtmeeljmapailnaaGreat.ey
def ln (T:List hh):List Nat:=T.flatMap λ v:hh=>aa.aj v.a
def iP (w:World) (aE:Nat) (T:List hh) (L:List (List aN)):Prop:=T.length=L.length∧∀ (i:Nat) (v:hh),T[i]? =some v→∃ l:List aN,L[i]? =some l∧v.n=l.length∧aN.rep.aH 69 48 w aE (aa.aj v.a) v.a v.c l
theorem iP.nil (w:World) (aE:Nat):iP w aE [] []:=⟨rfl,λ i v h=>by simp at h⟩
theorem al5 {T:List hh} {q:Nat} (h:q∈ln T):∃ (i:Nat) (v:hh),T[i]? =some v∧q∈aa.aj v.a:=by
 obtain ⟨v,hv,I⟩:=aXH.1 h;obtain ⟨i,ar,rfl⟩:=aUB.1 hv;exact ⟨i,_,aTF ar,I⟩
theorem al6 {T:List hh} {q i:Nat} {v:hh} (h:T[i]? =some v) (I:q∈aa.aj v.a):q∈ln T:=aXH.2 ⟨v,aUg h,I⟩
theorem NB {T:List hh} {v:hh} {q:Nat} (h:q∈ln (T++ [v])):q∈ln T∨q∈aa.aj v.a:=by
 unfold ln at h ⊢;rw [aU4,aTP] at h;exact h.imp id λ h=>by simpa using h
section
variable {w w':World} {aE:Nat} {T:List hh} {L:List (List aN)}
theorem iP.later (h:iP w aE T L) (x:Ext w w'):iP w' aE T L:=⟨h.1,λ i v ar=>by
 obtain ⟨l,τ,ae,aw⟩:=h.2 i v ar;exact ⟨l,τ,ae,aw.later x⟩⟩
theorem iP.mod {S:List Nat} (h:iP w aE T L) (m:Mod S w w') (hd:∀ q∈ln T,q∉S):iP w' aE T L:=⟨h.1,λ i v ar=>by
 obtain ⟨l,τ,ae,aw⟩:=h.2 i v ar;exact ⟨l,τ,ae,aw.mod m λ q I=>hd q (al6 ar I)⟩⟩
theorem iP.down {sJ:Nat} (h:iP w aE T L) (bG:sJ≤aE):iP w sJ T L:=⟨h.1,λ i v ar=>by
 obtain ⟨l,τ,ae,aw⟩:=h.2 i v ar;exact ⟨l,τ,ae,aw.down bG⟩⟩
theorem iP.lt (h:iP w aE T L):∀ q∈ln T,aE≤q∧q<w.heap.size:=λ q I=>by
 obtain ⟨i,v,ar,I⟩:=al5 I;obtain ⟨l,τ,ae,aw⟩:=h.2 i v ar;exact aw.lt q I
theorem iP.snoc {A:Option Addr} {c:Nat} {l:List aN} (h:iP w aE T L) (o:aN.rep.aH 69 48 w aE (aa.aj A) A c l):iP w aE (T++ [⟨A,l.length,c⟩]) (L++ [l]):=⟨by simp [h.1],λ i v ar=>by
 rcases aUt i T.length with bA | n9
 ·rw [aTR bA] at ar;obtain ⟨iD,τ,ae,aw⟩:=h.2 i v ar;exact ⟨iD,by rw [aTR (by rw [← h.1];exact bA)];exact τ,ae,aw⟩
 ·rw [aTU n9] at ar;have aK:i - T.length=0:=by
   rcases aWs (i - T.length) with aK | aK
   ·exact aK
   ·rw [aUH (by simp;omega)] at ar;cases ar
  rw [aK] at ar;obtain rfl:=aTA (show some (⟨A,l.length,c⟩:hh)=some v from ar);refine ⟨l,by rw [aTU (by rw [← h.1];exact n9),← h.1,aK];rfl,rfl,o⟩⟩
theorem iP.al4 (h:iP w aE T L):ng w T L:=⟨h.1,λ i v ar=>by
 obtain ⟨l,τ,ae,aw⟩:=h.2 i v ar;exact ⟨l,τ,ae,aw.has⟩⟩
end
def apd (W:ak) (L:List (List aN)) (l:List aN) (e:Int) (V:ak) (y0:List (List aN)):Prop :=
 (e=0∧u' W L∧L.length<200∧ir (oo W L) l=0∧V=W∧y0=L++ [l])∨(e≠0∧¬(u' W L∧L.length<200∧ir (oo W L) l=0)∧V=ak.zero∧y0= [])
theorem Y8 (a:ak.b_) (W:ak) (A:Option Addr) (c:Nat) (T:List hh) (L:List (List aN)) (qy:Option Addr) (vl:Nat) (l:List aN) (w:World) (b4:ak.Has w a W) (cr:m2.aG 24 w A c T) (du:ng w T L) (aC:aN.rep.aG 48 w qy vl l):
  Calls prog 97 #[.agg #[J W.field.wide,J W.field.high, .slice a.P W.field.a8.length a.p, .slice a.B W.a7.length a.b, .slice a.S W.bp.length a.s, .slice a.M W.bM.length a.m, .slice a.T W.aq.length a.t,J W.next,J W.now, .slice A T.length c], .slice qy l.length vl] w (λ e w'=>∃ (e':Int) (a':ak.b_) (V:ak) (bL:Option Addr) (bX:Nat) (j9:List hh) (y0:List (List aN)),e= .returned (.tuple #[.agg #[J V.field.wide,J V.field.high, .slice a'.P V.field.a8.length a'.p, .slice a'.B V.a7.length a'.b, .slice a'.S V.bp.length a'.s, .slice a'.M V.bM.length a'.m, .slice a'.T V.aq.length a'.t,J V.next,J V.now, .slice bL j9.length bX],J e'])∧apd W L l e' V y0∧bO w' w.heap.size a' V∧m2.aH 48 24 w' w.heap.size (aa.aj bL) bL bX j9∧iP w' w.heap.size j9 y0∧(∀ q∈bO.cM a',q∉aa.aj bL∧q∉ln j9)∧(∀ q∈aa.aj bL,q∉ln j9)∧Ext w w'):=by
 refine b' (n:=79) func97 Z Z Z ?_;refine ah<|ck Z Z Z Z λ cK bR bq dU ai=> ?_;have ba:=ab (Ext.bg w) bq;have ib:=ai.lt;refine al Z VU Z Z λ ea cC br gO ax=> ?_;have bE:=ab ba br;have mi:=ax.lt;refine va Z<|ag<|ah<|Φ (av Fa Z)<| ?_;have ai:=ai.later br;refine Φ (ao Z (ai.par [J W.field.wide,J W.field.high, .slice a.P W.field.a8.length a.p, .slice a.B W.a7.length a.b, .slice a.S W.bp.length a.s, .slice a.M W.bM.length a.m, .slice a.T W.aq.length a.t,J W.next,J W.now] dA cm Z))<|Φ (av tY Z)<|Φ (ao Z (ai.one zi Z))<|ca K1 Z Z ((Nk a W _ _ T L _ (b4.keep bE) (cr.keep bE) (du.keep bE)).mono ?_);rintro e yj ⟨Cs,dX,cL,anp,arp,aB8,rfl,L5,tH,apr,axL,iu⟩;refine ⟨_,Z, ?_⟩;have:=iu.size;have l3:=ab bE iu;have m4:=b7 tH.lt;refine vm Z<|Φ (ex Z Z)<|Φ (ex Z Z)<|Φ (ex Z Z)<|al Z pN Z Z λ wo aLh gS aPg Ou=> ?_;have kF:=ab l3 gS;have aRs:=Ou.lt;refine st Z Z Ou Z cm Z Z Z λ B7 vT Ou=> ?_;have:=vT.size;have pq:=Ext.mod kF vT bC;refine va Z<|va Z<|ag<|ay<|ah<|vm Z<|Φ (bne Z Z)<|ag<| ?_;refine ee Z (λ nv=> ?_) (λ nv=> ?_)
 ·refine ah<|Φ (v:= .agg #[J 0,J 0, .slice none 0 0, .slice none 0 0, .slice none 0 0, .slice none 0 0, .slice none 0 0,J 0,J 0, .slice none 0 0]) (cY Z (by kernel_rfl))<|vm Z<| ?_;have ax:=(ax.later (ab iu gS)).mod vT aQ;refine st (new:= [J 0,J 0, .slice none 0 0, .slice none 0 0, .slice none 0 0, .slice none 0 0, .slice none 0 0,J 0,J 0, .slice none 0 0]) Z Z ax Z pM Z Z Z λ Jx xQ ax=> ?_;have qu:=Ext.mod pq xQ bC;refine va Z<|ag<|rt<|bP<|aV (.cell Z (ax.all zj pM) (.tmp Z .nil))<| ?_;exact ⟨Cs,⟨none,none,none,none,none,0,0,0,0,0⟩,ak.zero,none,0, [], [],Z, .inr ⟨(by simpa using nv),λ bc=>(show ¬ Cs=0 by simpa using nv) (L5.SD.2 bc.1),Z,Z⟩,bO.zero _ _,aa.aH.nil _,iP.nil _ _,λ q I=>⟨λ h=>by simp [aa.aj] at h,λ h=>by simp [ln] at h⟩,λ q I=>by simp [aa.aj] at I,qu⟩
 ·obtain ⟨pa,lV,nF,og,qd⟩:=L5.ok (by simpa using nv);have ayr:=du.1;refine bl<|ay<|ah<|Φ (av tY Z)<| ?_;have ai:=(ai.later (ab iu gS)).mod vT aQ;refine Φ (ao Z (ai.one zi Z))<|Φ (cl underlying30 Z)<|Φ (beq Z Z)<|ag<| ?_;refine jo Z (λ vF=> ?_) (λ vF=> ?_)
  ·refine ah<|Φ (v:= .agg #[J 0,J 0, .slice none 0 0, .slice none 0 0, .slice none 0 0, .slice none 0 0, .slice none 0 0,J 0,J 0, .slice none 0 0]) (cY Z (by kernel_rfl))<| ?_;have ax:=(ax.later (ab iu gS)).mod vT aQ;refine st (new:= [J 0,J 0, .slice none 0 0, .slice none 0 0, .slice none 0 0, .slice none 0 0, .slice none 0 0,J 0,J 0, .slice none 0 0]) Z Z ax Z pM Z Z Z λ Jy F6 ax=> ?_;have qv:=Ext.mod pq F6 bC;refine va Z<|ag<|rt<|bP<|aV (.cell Z (ax.all zj pM) (.tmp Z .nil))<| ?_;exact ⟨6,⟨none,none,none,none,none,0,0,0,0,0⟩,ak.zero,none,0, [], [],Z, .inr ⟨(by decide),λ bc=>by have:=bc.2.1;have Xu:=vF;omega,rfl,rfl⟩,bO.zero _ _,aa.aH.nil _,iP.nil _ _,λ q I=>⟨λ h=>by simp [aa.aj] at h,λ h=>by simp [ln] at h⟩,λ q I=>by simp [aa.aj] at I,qv⟩
  ·have bA:L.length<200:=by have Xu:=vF;omega
   refine bl<|ay<|ah<|Φ (ao Z (Ou.all dA cm))<|vm Z<| ?_;have tH:=(tH.later gS).mod vT (b0 m4);refine ca VT Z Z ((NC dX cL _ _ l _ tH.has (aC.keep pq)).mono ?_);rintro e Jz ⟨UU,JP,ac4,JQ,ac5,JR,ac6,rfl,aKf,AQ,AR,AS,XC,k2⟩;refine ⟨_,Z, ?_⟩;have:=k2.size;have uI:=ab pq k2;have Jq:=b7 AQ.lt;have D9:=b7 AR.lt;have Jr:=b7 AS.lt;have aMj:∀ q∈aa.aj JP,q∈bO.cM UU→False:=λ q I=>XC q (.inl I);have aMk:∀ q∈aa.aj JQ,q∈bO.cM UU→False:=λ q I=>XC q (.inr (.inl I));have aMl:∀ q∈aa.aj JR,q∈bO.cM UU→False:=λ q I=>XC q (.inr (.inr I));refine vm Z<|Φ (ex Z Z)<|Φ (ex Z Z)<|Φ (ex Z Z)<|al Z pN Z Z λ amM aLq eP aPt J0=> ?_;have Oe:=ab uI eP;have aRH:=J0.lt;refine al Z HL Z Z λ Tb acL j5 aju nd=> ?_;have uK:=ab Oe j5;have Zt:=nd.lt;have J0:=J0.later j5;refine st Z Z J0 Z cm Z Z Z λ NN kV J0=> ?_;have:=kV.size;have yB:=Ext.mod uK kV bC;have nd:=nd.mod kV aQ;refine st (new:= [.slice JP ((z_ cL l).length) ac4, .slice JQ ((Aa cL l).length) ac5, .slice JR ((z8 cL l).length) ac6]) Z Z nd Z Ba Z Z Z λ JE s4 nd=> ?_;have:=s4.size;have tD:=Ext.mod yB s4 bC;refine va Z<|ag<|ah<|vm Z<|Φ (bne Z Z)<|ag<| ?_;refine ee Z (λ QT=> ?_) (λ QT=> ?_)
   ·refine ah<|Φ (v:= .agg #[J 0,J 0, .slice none 0 0, .slice none 0 0, .slice none 0 0, .slice none 0 0, .slice none 0 0,J 0,J 0, .slice none 0 0]) (cY Z (by kernel_rfl))<|vm Z<| ?_;have ax:=((((ax.later (ab iu gS)).mod vT aQ).later (ab k2 (ab eP j5))).mod kV aQ).mod s4 aQ;refine st (new:= [J 0,J 0, .slice none 0 0, .slice none 0 0, .slice none 0 0, .slice none 0 0, .slice none 0 0,J 0,J 0, .slice none 0 0]) Z Z ax Z pM Z Z Z λ Tf r4 ax=> ?_;have sz:=Ext.mod tD r4 bC;refine va Z<|ag<|rt<|bP<|aV (.cell Z (ax.all zj pM) (.tmp Z .nil))<| ?_;exact ⟨ir cL l,⟨none,none,none,none,none,0,0,0,0,0⟩,ak.zero,none,0, [], [],Z, .inr ⟨(by simpa using QT),λ bc=>absurd bc.2.2 (by rw [← og];simpa using QT),Z,Z⟩,bO.zero _ _,aa.aH.nil _,iP.nil _ _,λ q I=>⟨λ h=>by simp [aa.aj] at h,λ h=>by simp [ln] at h⟩,λ q I=>by simp [aa.aj] at I,sz⟩
   ·have FM:ir (oo W L) l=0:=by rw [← og];simpa using QT
    refine bl<|ah<|Φ (av Fa Z)<| ?_;have ai:=((ai.later (ab k2 (ab eP j5))).mod kV aQ).mod s4 aQ;refine Φ (ao Z (ai.par [J W.field.wide,J W.field.high, .slice a.P W.field.a8.length a.p, .slice a.B W.a7.length a.b, .slice a.S W.bp.length a.s, .slice a.M W.bM.length a.m, .slice a.T W.aq.length a.t,J W.next,J W.now] dA cm Z))<|ca K1 Z Z ((Nk a W _ _ ([]:List hh) ([]) _ (b4.keep tD) (aa.aG.nil _) ng.nil).mono ?_);rintro e aaH ⟨aJE,gx,hi,aJd,aLV,aP4,rfl,azj,tJ,aKr,aNb,tA⟩;refine ⟨_,Z, ?_⟩;have:=tA.size;have GY:=ab tD tA;have D_:=b7 tJ.lt;have aBc:=dM tJ.lt;refine vm Z<|Φ (ex Z Z)<|Φ (ex Z Z)<|Φ (ex Z Z)<|al Z pN Z Z λ aaI aLE hG aPL Ox=> ?_;have GZ:=ab GY hG;have aR0:=Ox.lt;refine st Z Z Ox Z cm Z Z Z λ aaJ xU Ox=> ?_;have:=xU.size;have G0:=Ext.mod GZ xU bC;refine va Z<|va Z<|ag<|ah<|Φ (ao Z (Ox.all dA cm))<|Φ (v:= .agg #[J hi.field.wide,J hi.field.high, .slice gx.P hi.field.a8.length gx.p, .slice gx.B hi.a7.length gx.b, .slice gx.S hi.bp.length gx.s, .slice gx.M hi.bM.length gx.m, .slice gx.T hi.aq.length gx.t,J hi.next,J hi.now, .slice none 0 0]) (cY Z (by kernel_rfl))<|al Z VU Z Z λ amC U6 ym aOU Oq=> ?_;have N8:=ab G0 ym;have aQZ:=Oq.lt;refine st (new:= [J hi.field.wide,J hi.field.high, .slice gx.P hi.field.a8.length gx.p, .slice gx.B hi.a7.length gx.b, .slice gx.S hi.bp.length gx.s, .slice gx.M hi.bM.length gx.m, .slice gx.T hi.aq.length gx.t,J hi.next,J hi.now, .slice none 0 0]) Z Z Oq Z pM Z Z Z λ Gv mV Oq=> ?_;have:=mV.size;have N9:=Ext.mod N8 mV bC;refine ag<|ay<|ah<|Φ (av tY Z)<| ?_;have ai:=(((ai.later (ab tA hG)).mod xU aQ).later ym).mod mV aQ;refine Φ (ao Z (ai.one zi Z))<|Φ (cl underlying30 Z)<|vm Z<|ag<|bu<| ?_;have tJ:=(((tJ.later hG).mod xU (b0 D_)).later ym).mod mV (b0 D_);have ax:=((((((((ax.later (ab iu gS)).mod vT aQ).later (ab k2 (ab eP j5))).mod kV aQ).mod s4 aQ).later (ab tA hG)).mod xU aQ).later ym).mod mV aQ;have AQ:=((((((AQ.later (ab eP j5)).mod kV (b0 Jq)).mod s4 (b0 Jq)).later (ab tA hG)).mod xU (b0 Jq)).later ym).mod mV (b0 Jq);have AR:=((((((AR.later (ab eP j5)).mod kV (b0 D9)).mod s4 (b0 D9)).later (ab tA hG)).mod xU (b0 D9)).later ym).mod mV (b0 D9);have AS:=((((((AS.later (ab eP j5)).mod kV (b0 Jr)).mod s4 (b0 Jr)).later (ab tA hG)).mod xU (b0 Jr)).later ym).mod mV (b0 Jr);refine dx (λ bZ bS aL=>∃ k:Nat,∃ hW:List hh,∃ dw:Option Addr,∃ iR:Nat,bS= [(1, .slice qy l.length vl),(4, .pointer (some ⟨cC,0,none⟩)),(5,J 0),(15, .pointer (some ⟨U6,0,none⟩)),(57, .slice A T.length c),(58,J (T.length:Int)),(59,J (k:Int))]∧bZ=T.length - k∧Ext w aL∧aR aL cC [J 0,J 0, .slice none 0 0, .slice none 0 0, .slice none 0 0, .slice none 0 0, .slice none 0 0,J 0,J 0, .slice none 0 0] 32 (0,0)∧bW.aH 3 8 aL B7.heap.size (aa.aj JP) JP ac4 (z_ cL l)∧bW.aH 3 8 aL B7.heap.size (aa.aj JQ) JQ ac5 (Aa cL l)∧zW.aH 4 1 aL B7.heap.size (aa.aj JR) JR ac6 (z8 cL l)∧bO aL JE.heap.size gx hi∧aR aL U6 [J hi.field.wide,J hi.field.high, .slice gx.P hi.field.a8.length gx.p, .slice gx.B hi.a7.length gx.b, .slice gx.S hi.bp.length gx.s, .slice gx.M hi.bM.length gx.m, .slice gx.T hi.aq.length gx.t,J hi.next,J hi.now, .slice dw hW.length iR] 32 (0,0)∧m2.aH 48 24 aL Gv.heap.size (aa.aj dw) dw iR hW∧iP aL Gv.heap.size hW (L.take k)∧(k≤T.length)∧(hW.length=k)∧(Gv.heap.size≤aL.heap.size)∧(∀ q∈ln hW,q∈aa.aj dw→False)∧(∀ q∈aa.aj dw,q=cC→False)∧(∀ q∈aa.aj dw,q=U6→False)∧(∀ q∈aa.aj dw,q∈bO.cM gx→False)∧(∀ q∈aa.aj dw,q∈aa.aj JP→False)∧(∀ q∈aa.aj dw,q∈aa.aj JQ→False)∧(∀ q∈aa.aj dw,q∈aa.aj JR→False)) _ _ ⟨0, [],none,0,Z,Z,N9,ax,AQ,AR,AS,tJ,Oq,(aa.aH.nil _),(iP.nil _ _),by omega,rfl,aTK _,λ q τ ae=>by simp [ln] at τ,(λ q I γ=>by (simp [aa.aj] at I)),(λ q I γ=>by (simp [aa.aj] at I)),(λ q I γ=>by (simp [aa.aj] at I)),(λ q I γ=>by (simp [aa.aj] at I)),(λ q I γ=>by (simp [aa.aj] at I)),(λ q I γ=>by (simp [aa.aj] at I))⟩ (.cons Z (.cons Z (.cons Z (.cons Z (.cons Z (.cons Z (.cons (bH Z) .nil))))))) ?_;rintro aPT aJK aaC ⟨k,hW,dw,iR,rfl,rfl,yw,ax,AQ,AR,AS,tJ,aZ,gd,iO,au,Lp,Yp,xc,E3,C5,E4,adF,KR,adG⟩;have aDQ:=ax.lt;have Ab:=b7 AQ.lt;have B2:=b7 AR.lt;have D5:=b7 AS.lt;have uA:=b7 tJ.lt;have aQ6:=aZ.lt;have SQ:=b7 gd.lt;have afp:∀ q∈aa.aj dw,Gv.heap.size≤q:=λ q I=>(gd.lt q I).1;have ov:∀ q∈ln hW,q<aaC.heap.size:=λ q I=>(iO.lt q I).2;have xL:∀ q∈ln hW,Gv.heap.size≤q:=λ q I=>(iO.lt q I).1;refine ah<|Φ (blt Z Z)<|ag<|ay<| ?_;refine df Z (λ aw0=> ?_) (λ aw0=> ?_)
    ·obtain ⟨eF,dC,hZ,gw,sS,hx⟩:=du.at_ (k:=k) (by omega);refine bl<|ay<|bu<|ah<|Φ (bT k underlying30 zh Z Z ((cr.keep yw).bs (aO k)) Z (by omega))<|Φ (v:= .slice eF hZ.length dC) (ao Z (aa.aG.eM LH ((cr.keep yw).cg (aO k)) gw Z mM))<|va Z<|ag<| ?_;refine cR [(1,0),(3,2),(4,2),(5,3),(7,3)] [0,1,2,3,4,5,6,7] ?_;refine aB Z (λ _=>av tY Z)<|bx Z (λ _ x=>ao Z ((aZ.later x).one zi Z))<|a1 Z Z<|gz Z Z Z λ amE m6 Q hK=>ca K2 Z Z ((KM _ _ hZ _ (hx.keep (ab yw m6))).mono ?_);rintro e aSH ⟨TH,Vj,rfl,Kj,aNC,l1⟩;refine ⟨_,Z,hK _ _ ⟨ab m6 l1, ?_⟩⟩;have:=m6.size;have N_:=ab yw m6;have:=l1.size;have aIv:=ab N_ l1;have aGv:=b7 Kj.lt;have YN:=dM Kj.lt;refine gz Z Z Z λ aHo wu Q hK=>cu (e:= 48) (cs:= [.slice TH ((hZ).length) Vj]) Z (λ _=>by kernel_rfl) Z λ amH aK6 yp aO4 abu=>hK _ _ ⟨ab wu yp, ?_⟩;have:=wu.size;have TB:=ab aIv wu;have Ob:=ab TB yp;have aRe:=abu.lt;have gd:=gd.later (ab m6 (ab l1 (ab wu yp)));refine eg Z Z Z λ aSM tr Q hK=>ap acs aa.dj (gd.later tr) ((aR.gY (R:=m2) (by_:=24) (q:=(⟨TH,(hZ).length,Vj⟩:hh)) abu ⟨Z,trivial⟩ (by decide)).keep tr) Z Z (by simp only [aTI,aTN];omega) (by simp only [aTI,aTN];omega) (by have:=tr.size;omega) Z λ amJ anI arK zK UA Bj aQj=>hK _ _ ?_;have:=tr.size;have aIz:=ab Ob tr;have:=zK.size;have Oc:=Ext.mod aIz zK (λ q I=>aUc (by omega) ((gd.later tr).lt q I).1);refine aB Z (λ _=>av tY Z)<| ?_;have aZ:=(aZ.later (ab m6 (ab l1 (ab wu (ab yp tr))))).mod zK (λ I=>C5 _ I rfl);refine eg Z Z Z λ aHs sm Q hK=>fb Z Z (aZ.later sm) Z VV Z Z λ aSS zL aZ=>hK _ _ ?_;have:=sm.size;have aa1:=ab Oc sm;have:=zL.size;have aIE:=Ext.mod aa1 zL bC;refine fn λ aSU yt=> ?_;have:=yt.size;have aIG:=ab aIE yt;refine bU<|aP<|rg<|Φ (bad Z Z (bf (by omega)))<|vm Z<|nl<| ?_;have ax:=((((ax.later (ab m6 (ab l1 (ab wu (ab yp tr))))).mod zK (λ I=>E3 _ I rfl)).later sm).mod zL aQ).later yt;have AQ:=((((AQ.later (ab m6 (ab l1 (ab wu (ab yp tr))))).mod zK (λ q I h=>adF q h I)).later sm).mod zL (λ q I h=>by have γ:=aTz.1 h;exfalso;(have:=Ab q I;have:=Jq q I;omega))).later yt;have AR:=((((AR.later (ab m6 (ab l1 (ab wu (ab yp tr))))).mod zK (λ q I h=>KR q h I)).later sm).mod zL (λ q I h=>by have γ:=aTz.1 h;exfalso;(have:=B2 q I;have:=D9 q I;omega))).later yt;have AS:=((((AS.later (ab m6 (ab l1 (ab wu (ab yp tr))))).mod zK (λ q I h=>adG q h I)).later sm).mod zL (λ q I h=>by have γ:=aTz.1 h;exfalso;(have:=D5 q I;have:=Jr q I;omega))).later yt;have tJ:=((((tJ.later (ab m6 (ab l1 (ab wu (ab yp tr))))).mod zK (λ q I h=>E4 q h I)).later sm).mod zL (λ q I h=>by have γ:=aTz.1 h;exfalso;(have:=uA q I;have:=D_ q I;omega))).later yt;have aZ:=aZ.later yt;have UA:=((UA.later sm).mod zL (λ q I h=>by have γ:=aTz.1 h;exfalso;(exact aTT (Bj q I) (λ MB=>by (exact C5 q MB γ)) (λ MB=>by omega)))).later yt;have iO:=((((iO.later (ab m6 (ab l1 (ab wu (ab yp tr))))).mod zK (λ q I h=>xc q I h)).later sm).mod zL (λ q I h=>by have γ:=aTz.1 h;exfalso;have:=xL q I;omega)).later yt;have Kj:=((((Kj.later (ab wu (ab yp tr))).mod zK (λ q I h=>by exfalso;(have:=YN q I;(have:=SQ q h;omega)))).later sm).mod zL (bJ YN)).later yt;exact cD _ _ ⟨k+1,hW++ [(⟨TH,(hZ).length,Vj⟩:hh)],anI,arK,Z,Z,aIG,ax,AQ,AR,AS,tJ,aZ,UA,(by rw [z1 sS];exact iO.snoc (Kj.down (by omega))),by omega,by rw [aTE,Lp];rfl,by omega,λ q τ ae=>(NB τ).elim (λ τ=>by exfalso;(exact aTT (Bj q ae) (λ aif=>by (exact xc q τ aif)) (λ aif=>by (have:=ov q τ;omega)))) (λ τ=>by exfalso;(exact aTT (Bj q ae) (λ aih=>by (have:=YN q τ;(have:=SQ q aih;omega))) (λ aih=>by (have:=aGv q τ;omega)))),(λ q I γ=>by (exact aTT (Bj q I) (λ aii=>by (exact E3 q aii γ)) (λ aii=>by omega))),(λ q I γ=>by (exact aTT (Bj q I) (λ aij=>by (exact C5 q aij γ)) (λ aij=>by omega))),(λ q I γ=>by (exact aTT (Bj q I) (λ aik=>by (exact E4 q aik γ)) (λ aik=>by (have:=uA q γ;have:=D_ q γ;omega)))),(λ q I γ=>by (exact aTT (Bj q I) (λ ail=>by (exact adF q ail γ)) (λ ail=>by (have:=Ab q γ;have:=Jq q γ;omega)))),(λ q I γ=>by (exact aTT (Bj q I) (λ aim=>by (exact KR q aim γ)) (λ aim=>by (have:=B2 q γ;have:=D9 q γ;omega)))),(λ q I γ=>by (exact aTT (Bj q I) (λ ain=>by (exact adG q ain γ)) (λ ain=>by (have:=D5 q γ;have:=Jr q γ;omega))))⟩ (by omega) (.cons Z (.cons Z (.cons Z (.cons Z (.cons Z (.cons Z (.cons (bH Z) .nil)))))))
    ·have lO:k=L.length:=by rw [← du.1];omega
     refine cV<|cU<|c'<|cT<|aP<|ay<| ?_;refine cR [(1,0),(3,2),(4,2),(5,3),(7,3)] [0,1,2,3,4,5,6,7] ?_;refine aB Z (λ _=>av tY Z)<|bx Z (λ _ x=>ao Z ((aZ.later x).one zi Z))<|a1 Z Z<|gz Z Z Z λ aSZ Cd Q hK=>ca K2 Z Z ((KM _ _ l _ (aC.keep (ab yw Cd))).mono ?_);rintro e aS3 ⟨TJ,Vl,rfl,Kk,aND,Ek⟩;refine ⟨_,Z,hK _ _ ⟨ab Cd Ek, ?_⟩⟩;have:=Cd.size;have aIK:=ab yw Cd;have:=Ek.size;have aIO:=ab aIK Ek;have D7:=b7 Kk.lt;have ML:=dM Kk.lt;refine gz Z Z Z λ aHu sq Q hK=>cu (e:= 48) (cs:= [.slice TJ ((l).length) Vl]) Z (λ _=>by kernel_rfl) Z λ aHv aLf El aPc aby=>hK _ _ ⟨ab sq El, ?_⟩;have:=sq.size;have aa2:=ab aIO sq;have TD:=ab aa2 El;have aRm:=aby.lt;have gd:=gd.later (ab Cd (ab Ek (ab sq El)));refine eg Z Z Z λ aS6 yu Q hK=>ap acs aa.dj (gd.later yu) ((aR.gY (R:=m2) (by_:=24) (q:=(⟨TJ,(l).length,Vl⟩:hh)) aby ⟨Z,trivial⟩ (by decide)).keep yu) Z Z (by simp only [aTI,aTN];omega) (by simp only [aTI,aTN];omega) (by have:=yu.size;omega) Z λ aS7 abf adb IP UE Lb aQr=>hK _ _ ?_;have:=yu.size;have aIQ:=ab TD yu;have aIR:=Ext.mod aIQ IP (λ q I=>aUc (by omega) ((gd.later yu).lt q I).1);refine aB Z (λ _=>av tY Z)<| ?_;have aZ:=(aZ.later (ab Cd (ab Ek (ab sq (ab El yu))))).mod IP (λ I=>C5 _ I rfl);refine eg Z Z Z λ aTb m7 Q hK=>fb Z Z (aZ.later m7) Z VV Z Z λ aTc IQ aZ=>hK _ _ ?_;have aIV:=ab aIR m7;have aIW:=Ext.mod aIV IQ bC;refine fn λ aTe GO=> ?_;have aIY:=ab aIW GO;refine aP<|ah<| ?_;have aZ:=aZ.later GO;refine Φ (ao Z (aZ.all zj pM))<| ?_;have ax:=((((ax.later (ab Cd (ab Ek (ab sq (ab El yu))))).mod IP (λ I=>E3 _ I rfl)).later m7).mod IQ aQ).later GO;refine st (new:= [J hi.field.wide,J hi.field.high, .slice gx.P hi.field.a8.length gx.p, .slice gx.B hi.a7.length gx.b, .slice gx.S hi.bp.length gx.s, .slice gx.M hi.bM.length gx.m, .slice gx.T hi.aq.length gx.t,J hi.next,J hi.now, .slice abf ((hW++ [(⟨TJ,(l).length,Vl⟩:hh)]).length) adb]) Z Z ax Z pM Z Z Z λ aTf MW ax=> ?_;have aIZ:=Ext.mod aIY MW bC;refine va Z<|ag<|rt<|aV (.cell Z (ax.all zj pM) (.tmp Z .nil))<| ?_;have UE:=(((UE.later m7).mod IQ (λ q I h=>by have γ:=aTz.1 h;exfalso;(exact aTT (Lb q I) (λ aiH=>by (exact C5 q aiH γ)) (λ aiH=>by omega)))).later GO).mod MW (λ q I h=>by have γ:=aTz.1 h;exfalso;(exact aTT (Lb q I) (λ aiI=>by (exact E3 q aiI γ)) (λ aiI=>by omega)));have Kk:=(((((Kk.later (ab sq (ab El yu))).mod IP (λ q I h=>by exfalso;(have:=ML q I;(have:=SQ q h;omega)))).later m7).mod IQ (bJ ML)).later GO).mod MW (bJ ML);have iO:=(((((iO.later (ab Cd (ab Ek (ab sq (ab El yu))))).mod IP (λ q I h=>xc q I h)).later m7).mod IQ (λ q I h=>by have γ:=aTz.1 h;exfalso;have:=xL q I;omega)).later GO).mod MW (λ q I h=>by have γ:=aTz.1 h;exfalso;have:=xL q I;omega);have tJ:=(((((tJ.later (ab Cd (ab Ek (ab sq (ab El yu))))).mod IP (λ q I h=>E4 q h I)).later m7).mod IQ (λ q I h=>by have γ:=aTz.1 h;exfalso;(have:=uA q I;have:=D_ q I;omega))).later GO).mod MW (bJ aBc);subst lO;rw [aUo] at iO;obtain ⟨_,hv,_⟩:=azj.zero (by simp) lV rfl;have hv:hi=W:=hv;exact ⟨0,gx,_,abf,adb,_,L++ [l],Z, .inl ⟨Z,⟨pa,lV,nF⟩,bA,FM,hv,Z⟩,tJ.down (by omega),UE.down (by omega),(iO.snoc (Kk.down (by omega))).down (by omega),λ q I=>⟨λ h=>by exfalso;(exact aTT (Lb q h) (λ MD=>by (exact E4 q MD I)) (λ MD=>by (have:=uA q I;have:=D_ q I;omega))),λ h=>(NB h).elim (λ h=>by exfalso;(have:=xL q h;(have:=uA q I;have:=D_ q I;omega))) (λ h=>by exfalso;(have:=ML q h;(have:=uA q I;have:=D_ q I;omega)))⟩,λ q I h=>(NB h).elim (λ h=>by exfalso;(exact aTT (Lb q I) (λ ME=>by (exact xc q h ME)) (λ ME=>by (have:=ov q h;omega)))) (λ h=>by exfalso;(exact aTT (Lb q I) (λ MF=>by (have:=ML q h;(have:=SQ q MF;omega))) (λ MF=>by (have:=D7 q h;omega)))),aIZ⟩
end
section
theorem Y0 (z:Array Value) (n:Nat):(madeCells z n).toList=(List.range n).map λ i=>z[i % z.size]! :=by
 unfold madeCells;rw [Array.toList_map,Array.toList_range]
theorem ajU (z:Array Value) (aK:0<z.size):∀ c:Nat,(List.replicate c z.toList).flatten=(madeCells z (c * z.size)).toList
 | 0=>by simp [Y0]
 | c+1=>by
  rw [List.replicate_succ',aV5,ajU z aK c,Y0,Y0,aVj,List.range_add,aT8,aWq];congr 1;rw [aUw,List.flatten_nil,aT6];refine List.ext_getElem (by simp) λ i τ ae=> ?_;have Fk:i<z.size:=by simpa using τ
  rw [aWJ,List.getElem_range,Array.getElem_toList];show z[i]=z[(c * z.size+i) % z.size]!;rw [aUU,aV9,aU0 Fk,aYf z i Fk]
section
variable {P:Program} {n:Nat} {E cO:List (Nat×Value)} {a:Act} {w w' w0 aS:World} {Q:Exit→Act→World→Prop} {ops:Array Oper}
variable {d:Nat} {ty:TypeId} {pos:String} {af:Array Edge} {g:Option (Nat×Bool)} {x y z:Operand} {t:TypeId} {rest:List Oper}
theorem aBu {α:Type} {R:aa α} {e by_ B c:Nat} {zv:Value} {q:α} (cq:R.Plain) (aJ:P.underlying t=some (.slice e)) (ar:(P.info? e).map (λ i=>(i.zero,i.size,i.bytes))=some (some zv,R.size,by_)) (τ:zv.cells.size=R.size) (ae:0<R.size) (aw:∀ (j:Nat) u,zv.cells[j]? =some u→R.raw j u) (I:∀ w,R.has w zv.cells.toList q)
  (hx:ev E x=some (.int .i64 (c:Int))) (aF:ev E y=some (.int .i64 (c:Int))) (hd:Nat.blt d n=true) (γ:c * by_≤140737488355328) (hc:c≤9223372036854775807) (bj:B≤w.heap.size)
  (h:∀ aS b,Ext w aS→w.heap.size≤b→R.aH e by_ aS B (aa.aj (some ⟨b,0,none⟩)) (some ⟨b,0,none⟩) c (List.replicate c q)→cy P n ops Q rest ((d, .slice (some ⟨b,0,none⟩) c c)::E) aS):cy P n ops Q (⟨some d, .makeSlice t x y,ty,pos,af,none⟩::rest) E w:=by
 refine Y1 (m:=c) (ess:=List.replicate c zv.cells.toList) cq aJ ar τ ae aw hx aF hd (aTK _) γ hc bj (by simp) (λ w=> ?_) ?_ h
 ·clear h γ hc hx aF;induction c with
  | zero=>trivial
  | succ c bK=>exact ⟨I w,bK⟩
 ·rw [ajU _ (by rw [τ];exact ae),τ,aT0];rw [aVB,aXe];exact aTK _
end
end
section
theorem aqh:fi prog bD.rep 34 163 40:=fi.lH (z:=bD.zero) (k:=3) underlying34 bD.info rfl rfl (by decide) bD.ix
theorem aqg:fi prog aN.rep 48 69 48:=fi.lH (z:=aN.zero) (k:=6) underlying48 aN.info rfl rfl (by decide) aN.ix
open Go.Proofs.YtmeeljmapailnaaGreat.ey
def gj (T:List bD):List Nat:=ln (T.map bD.kA)
def aqe (T:List bD):Prop:=∀ (i j:Nat) (u v:bD),T[i]? =some u→T[j]? =some v→i≠j→∀ q∈aa.aj u.a,q∉aa.aj v.a
def fc (w:World) (aE:Nat) (T:List bD) (S:List cj):Prop:=iP w aE (T.map bD.kA) (S.map cj.waits)∧T.map (λ v=>(v.late,v.gone))=S.map (λ s=>(s.late,s.gone))∧aqe T
theorem Np {T:List bD} {q:Nat} (h:q∈gj T):∃ (i:Nat) (v:bD),T[i]? =some v∧q∈aa.aj v.a:=by
 obtain ⟨i,v,τ,ae⟩:=al5 h;rw [aTY] at τ;cases aw:T[i]? with
 | none=>rw [aw] at τ;cases τ
 | some u=>rw [aw] at τ;obtain rfl:=aTA τ;exact ⟨i,u,aw,ae⟩
theorem s9 {T:List bD} {q i:Nat} {v:bD} (h:T[i]? =some v) (I:q∈aa.aj v.a):q∈gj T:=al6 (i:=i) (v:=v.kA) (by rw [aTY,h];rfl) I
section
variable {w w':World} {aE sJ:Nat} {T:List bD} {S:List cj} {k:Nat} {A:Option Addr} {c:Nat} {s:cj}
theorem fc.nil (w:World) (aE:Nat):fc w aE [] []:=⟨iP.nil _ _,rfl,λ i j u v h=>by simp at h⟩
theorem fc.later (h:fc w aE T S) (x:Ext w w'):fc w' aE T S:=⟨h.1.later x,h.2⟩
theorem fc.mod {B:List Nat} (h:fc w aE T S) (m:Mod B w w') (hd:∀ q∈gj T,q∉B):fc w' aE T S:=⟨h.1.mod m hd,h.2⟩
theorem fc.down (h:fc w aE T S) (bG:sJ≤aE):fc w sJ T S:=⟨h.1.down bG,h.2⟩
theorem fc.lt (h:fc w aE T S):∀ q∈gj T,aE≤q∧q<w.heap.size:=h.1.lt
theorem fc.yc (h:fc w aE T S):mI w T S:=⟨h.1.al4,h.2.1⟩
theorem aln {v:bD} {q:Nat} (h:q∈gj (T++ [v])):q∈gj T∨q∈aa.aj v.a:=by
 unfold gj at h ⊢;rw [aT8] at h;exact NB h
theorem fc.snoc (h:fc w aE T S) (o:aN.rep.aH 69 48 w aE (aa.aj A) A c s.waits) (hd:∀ q∈gj T,q∉aa.aj A):fc w aE (T++ [⟨A,s.waits.length,c,s.late,s.gone⟩]) (S++ [s]):=by
 refine ⟨?_,by rw [aT8,aT8,h.2.1];rfl,λ i j u v ar aA hl q I vK=> ?_⟩
 ·rw [aT8,aT8];exact h.1.snoc o
 ·have aC:=fun {i:Nat} {u:bD} (h:(T++ [(⟨A,s.waits.length,c,s.late,s.gone⟩:bD)])[i]? =some u)=>(aTC.1 h).1;have xy:=aC ar;have FE:=aC aA;rw [aTE,aUq] at xy FE;rcases aUt i T.length with τ | τ<;>rcases aUt j T.length with ae | ae
  ·rw [aTR τ] at ar;rw [aTR ae] at aA;exact h.2.2 i j u v ar aA hl q I vK
  ·rw [aTR τ] at ar;rw [aTU ae,show j - T.length=0 from by omega] at aA;obtain rfl:=aTA aA;exact hd q (s9 ar I) vK
  ·rw [aTU τ,show i - T.length=0 from by omega] at ar;rw [aTR ae] at aA;obtain rfl:=aTA ar;exact hd q (s9 aA vK) I
  ·omega
theorem fc.get (h:fc w aE T S) (au:k<T.length):∃ (A:Option Addr) (c:Nat) (s:cj),T[k]? =some ⟨A,s.waits.length,c,s.late,s.gone⟩∧S[k]? =some s∧aN.rep.aH 69 48 w aE (aa.aj A) A c s.waits:=by
 obtain ⟨A,c,s,τ,ae,aw⟩:=h.yc.at_ au;obtain ⟨l,aU,bz,cb⟩:=h.1.2 k ⟨A,s.waits.length,c⟩ (by rw [aTY,τ];rfl);rw [aTY,ae] at aU;obtain rfl:=aTA aU;exact ⟨A,c,s,τ,ae,cb⟩
theorem fc.set (h:fc w aE T S) (au:k<T.length) (o:aN.rep.aH 69 48 w aE (aa.aj A) A c s.waits) (hd:∀ (i:Nat) (u:bD),T[i]? =some u→i≠k→∀ q∈aa.aj u.a,q∉aa.aj A):fc w aE (T.set k ⟨A,s.waits.length,c,s.late,s.gone⟩) (S.set k s):=by
 have ff:k<S.length:=by rw [← h.yc.len];exact au
 refine ⟨⟨by simp [h.yc.len],λ i v ar=> ?_⟩, ?_,λ i j u v ar aA hl q I vK=> ?_⟩
 ·rw [aUY] at ar;by_cases lQ:k=i
  ·subst lQ;rw [aT2 (by simpa using au)] at ar;obtain rfl:=aTA ar;exact ⟨s.waits,by rw [aUY,aT2 (by simpa using ff)],rfl,o⟩
  ·rw [aT9 lQ] at ar;obtain ⟨l,τ,ae,aw⟩:=h.1.2 i v ar;exact ⟨l,by rw [aUY,aT9 lQ];exact τ,ae,aw⟩
 ·rw [aUY,aUY,h.2.1]
 ·by_cases lQ:k=i
  ·subst lQ;rw [aT2 au] at ar;obtain rfl:=aTA ar;rw [aT9 hl] at aA;exact hd j v aA (aWp hl) q vK I
  ·rw [aT9 lQ] at ar;by_cases hb:k=j
   ·subst hb;rw [aT2 au] at aA;obtain rfl:=aTA aA;exact hd i u ar hl q I vK
   ·rw [aT9 hb] at aA;exact h.2.2 i j u v ar aA hl q I vK
theorem fc.out (h:fc w aE T S) (au:k<T.length):∃ (A:Option Addr) (c:Nat) (s:cj),T[k]? =some ⟨A,s.waits.length,c,s.late,s.gone⟩∧S[k]? =some s∧aN.rep.aH 69 48 w aE (aa.aj A) A c s.waits∧fc w aE (T.set k ⟨none,0,0,s.late,s.gone⟩) (S.set k ⟨[],s.late,s.gone⟩)∧(∀ q∈aa.aj A,q∈gj T)∧∀ q∈gj (T.set k ⟨none,0,0,s.late,s.gone⟩),q∈gj T∧q∉aa.aj A:=by
 obtain ⟨A,c,s,τ,ae,aw⟩:=h.get au;refine ⟨A,c,s,τ,ae,aw,h.set (s:=⟨[],s.late,s.gone⟩) au (aa.aH.nil _) (λ i u _ _ q _ I=>by simp [aa.aj] at I),λ q I=>s9 τ I,λ q I=> ?_⟩;obtain ⟨i,v,aU,bz⟩:=Np I;by_cases lQ:k=i
 ·subst lQ;rw [aT2 au] at aU;obtain rfl:=aTA aU;simp [aa.aj] at bz
 ·rw [aT9 lQ] at aU;exact ⟨s9 aU bz,h.2.2 i k v _ aU τ (aWp lQ) q bz⟩
theorem fc.back {l:Int} {g:Bool} (h:fc w aE (T.set k ⟨none,0,0,l,g⟩) (S.set k ⟨[],l,g⟩)) (au:k<T.length) (o:aN.rep.aH 69 48 w aE (aa.aj A) A c s.waits) (hd:∀ q∈gj (T.set k ⟨none,0,0,l,g⟩),q∉aa.aj A):fc w aE (T.set k ⟨A,s.waits.length,c,s.late,s.gone⟩) (S.set k s):=by
 have τ:=h.set (k:=k) (s:=s) (by simpa using au) o (λ i u ar _ q I=>hd q (s9 ar I));rw [List.set_set,List.set_set] at τ;exact τ
theorem Nq {v:bD} {q:Nat} (h:q∈gj (T.set k v)):q∈gj (T.set k ⟨none,0,0,v.late,v.gone⟩)∨q∈aa.aj v.a:=by
 obtain ⟨i,u,aU,bz⟩:=Np h;by_cases lQ:k=i
 ·subst lQ;rw [aT2 (by have:=(aTC.1 aU).1;simpa using this)] at aU;obtain rfl:=aTA aU;exact .inr bz
 ·rw [aT9 lQ] at aU;exact .inl (s9 (i:=i) (by rw [aT9 lQ];exact aU) bz)
end
def Nn (S:List cj) (o:aN):Prop:=u_ S∧o.bn=0∧∃ s,S[o.by_.toNat]? =some s∧s.gone=false∧s.waits.length≠50
def Gk (S:List cj) (o:aN):List cj:=match S[o.by_.toNat]? with | some s=>S.set o.by_.toNat ⟨s.waits++ [o],s.late,s.gone⟩ | none=>S
def ajy (S:List cj) (p:Int):Prop:=u_ S∧0≤p∧∃ s,S[p.toNat]? =some s∧s.gone=false
def acq (ok:Prop) (S:List cj) (e:Int) (oM:List cj):Prop:=(e=0∧ok∧oM=S)∨(e≠0∧¬ ok∧oM= [])
def BA (S:List cj) (p:Int):List cj:=S.set p.toNat ⟨[],0,true⟩
theorem Su {T:List bD} {k q:Nat} {l:Int} {g:Bool} (h:q∈gj (T.set k ⟨none,0,0,l,g⟩)):q∈gj T:=by
 obtain ⟨i,u,aU,bz⟩:=Np h;by_cases lQ:k=i
 ·subst lQ;rw [aT2 (by have:=(aTC.1 aU).1;simpa using this)] at aU;obtain rfl:=aTA aU;simp [aa.aj] at bz
 ·rw [aT9 lQ] at aU;exact s9 aU bz
theorem alm {n q:Nat} (h:q∈gj (List.replicate n default)):False:=by
 obtain ⟨i,u,aU,bz⟩:=Np h;rw [aUO] at aU;split at aU
 ·obtain rfl:=aTA aU;simp [aa.aj,default] at bz
 ·cases aU
theorem fc.aEm (w:World) (aE n:Nat):fc w aE (List.replicate n default) (List.replicate n ⟨[],0,false⟩):=by
 refine ⟨⟨by simp,λ i v h=> ?_⟩,by simp [default],λ i j u v τ _ _ q I=>(alm (s9 τ I)).elim⟩;rw [aYL] at h;have ar:i<n:=by have:=(aTC.1 h).1;simpa using this
 rw [aUO,aTO ar] at h;obtain rfl:=aTA h;exact ⟨[],by rw [aYL,aUO,aTO ar],rfl,aa.aH.nil _⟩
theorem adn {o:aN} (h:o.bn=0):0≤o.by_∧o.by_≤7:=by
 cases hr:o.I5 with
 | true=>rw [aN.adm hr] at h;cases h
 | false =>
  unfold aN.I5 at hr;simp only [aUl,aVm] at hr;have:=hr.1.1.1.1.1;unfold c9 at this;simp at this;exact this
theorem alj {S:List cj} {o:aN} {s:cj} (h:S[o.by_.toNat]? =some s):Gk S o=S.set o.by_.toNat ⟨s.waits++ [o],s.late,s.gone⟩:=by unfold Gk;rw [h]
theorem Z9 (A:Option Addr) (c:Nat) (T:List bD) (S:List cj) (w:World) (cr:bD.rep.aG 40 w A c T) (hS:mI w T S):
  Calls prog 95 #[.slice A T.length c] w (λ e w'=>∃ (bL:Option Addr) (bX:Nat) (j9:List bD),e= .returned (.slice bL j9.length bX)∧bD.rep.aH 163 40 w' w.heap.size (aa.aj bL) bL bX j9∧fc w' w.heap.size j9 S∧(∀ q∈aa.aj bL,q∉gj j9)∧Ext w w'):=by
 have Ir:=cr.eZ;have Q9:=cr.2.2.1;refine b' (n:=25) func95 Z Z Z ?_;refine ah<|va Z<|ag<|ah<|vm Z<|Φ (cl underlying34 Z)<|RL (R:=bD.rep) (by_:=40) (B:=w.heap.size) (c:=T.length) (zv:=bD.zero) aa.n1 underlying34 bD.info Z (by decide) bD.ix Z Z Z (by omega) (by omega) (by omega) λ cK bR bq dU Pc=> ?_;have:=bq.size;have ba:=ab (Ext.bg w) bq;refine va Z<|ag<|ay<|ah<|vm Z<|Φ (cl underlying34 Z)<|vm Z<|ag<|bu<| ?_;refine dx (λ bZ bS aL=>∃ k:Nat,∃ hW:List bD,∃ dw:Option Addr,∃ iR:Nat,bS= [(2, .slice none 0 0),(3, .slice dw hW.length iR),(9, .slice A T.length c),(10,J (T.length:Int)),(11,J (k:Int))]∧bZ=T.length - k∧Ext w aL∧bD.rep.aH 163 40 aL w.heap.size (aa.aj dw) dw iR hW∧fc aL cK.heap.size hW (S.take k)∧(k≤T.length)∧(hW.length=k)∧(cK.heap.size≤aL.heap.size)∧(∀ q∈gj hW,q∈aa.aj dw→False)) _ _ ⟨0, [],some ⟨bR,0,none⟩,T.length,Z,Z,ba,Pc,(fc.nil _ _),by omega,rfl,aTK _,λ q τ ae=>by simp [gj,ln] at τ⟩ (.cons Z (.cons Z (.cons Z (.cons Z (.cons (bH Z) .nil))))) ?_;rintro MR aoh tk ⟨k,hW,dw,iR,rfl,rfl,jC,gd,iO,au,Lp,Yp,xc⟩;have:=jC.size;have D6:=b7 gd.lt;have afp:∀ q∈aa.aj dw,w.heap.size≤q:=λ q I=>(gd.lt q I).1;have ov:∀ q∈gj hW,q<tk.heap.size:=λ q I=>(iO.lt q I).2;refine ah<|Φ (blt Z Z)<|ag<|ay<| ?_;refine df Z (λ aw1=> ?_) (λ aw1=> ?_)
 ·obtain ⟨eF,dC,bk,gw,sS,hx⟩:=hS.at_ (k:=k) (by omega);refine bl<|ay<|bu<|ah<|Φ (bT k underlying34 iB Z Z ((cr.keep jC).bs (aO k)) Z (by omega))<|Φ (ao Z (aa.aG.er mQ ((cr.keep jC).cg (aO k)) gw vu iB))<|al Z HM Z Z λ gJ iA cI qQ bB=> ?_;have cJ:=ab jC cI;have ya:=bB.lt;refine st (new:= [.slice eF bk.waits.length dC,J bk.late, .bool bk.gone]) Z Z bB Z iB Z Z Z λ nN F5 bB=> ?_;have:=F5.size;have fp:=Ext.mod cJ F5 bC;refine ag<|ah<|Φ (av pL Z)<|Φ (ao Z (bB.one mM Z))<|ca K2 Z Z ((KM _ _ bk.waits _ (hx.keep fp)).mono ?_);rintro e sj ⟨TL,Vn,rfl,Km,aNG,fx⟩;refine ⟨_,Z, ?_⟩;have:=fx.size;have hU:=ab fp fx;have qi:=b7 Km.lt;have o3:=dM Km.lt;refine Φ (av pL Z)<| ?_;have bB:=bB.later fx;refine fb Z Z bB Z zh Z Z λ yk lG bB=> ?_;have:=lG.size;have lu:=Ext.mod hU lG bC;refine ag<|rg<|vm Z<|Φ (ao Z (bB.all vu iB))<|cu (e:= 163) (cs:= [.slice TL ((bk.waits).length) Vn,J bk.late, .bool bk.gone]) Z (λ _=>by kernel_rfl) Z λ NK KF fg ajr yT=> ?_;have:=fg.size;have uE:=ab lu fg;have aDZ:=yT.lt;have gd:=((((gd.later cI).mod F5 (b0 D6)).later fx).mod lG (b0 D6)).later fg;refine ap aqh aa.dj gd (aR.gY (R:=bD.rep) (by_:=40) (q:=(⟨TL,(bk.waits).length,Vn,bk.late,bk.gone⟩:bD)) yT ⟨Z,(show e_ bk.late from bD.k_ cr _ (aUg gw))⟩ (by decide)) Z Z (by simp only [aTI,aTN];omega) (by simp only [aTI,aTN];omega) (by omega) Z λ yl anR adg iF apM afv aQx=> ?_;have:=iF.size;have ko:=Ext.mod uE iF (λ q I=>aUc (by omega) (gd.lt q I).1);refine va Z<|nl<|bU<|aP<|rg<|Φ (bad Z Z (bf (by omega)))<|vm Z<|nl<| ?_;have iO:=(((((iO.later cI).mod F5 (b0 ov)).later fx).mod lG (b0 ov)).later fg).mod iF (λ q I h=>xc q I h);have Km:=((Km.mod lG (bJ o3)).later fg).mod iF (λ q I h=>by exfalso;(have:=o3 q I;(have:=D6 q h;omega)));exact cD _ _ ⟨k+1,hW++ [(⟨TL,(bk.waits).length,Vn,bk.late,bk.gone⟩:bD)],anR,adg,Z,Z,ko,apM,(by rw [z1 sS];exact iO.snoc (Km.down (by omega)) (λ q τ ae=>by exfalso;(have:=o3 q ae;(have:=ov q τ;omega)))),by omega,by rw [aTE,Lp];rfl,by omega,λ q τ ae=>(aln τ).elim (λ τ=>by exfalso;(exact aTT (afv q ae) (λ aiV=>by (exact xc q τ aiV)) (λ aiV=>by (have:=ov q τ;omega)))) (λ τ=>by exfalso;(exact aTT (afv q ae) (λ aiW=>by (have:=o3 q τ;(have:=D6 q aiW;omega))) (λ aiW=>by (have:=qi q τ;omega))))⟩ (by omega) (.cons Z (.cons Z (.cons Z (.cons Z (.cons (bH Z) .nil)))))
 ·have lO:k=S.length:=by rw [← hS.len];omega
  refine cV<|cU<|c'<|cT<|aP<|ah<|vm Z<|va Z<|ag<|rt<|aV (.tmp Z .nil)<| ?_;subst lO;rw [aUo] at iO;exact ⟨dw,iR,hW,Z,gd,iO.down (by omega),λ q τ ae=>xc q ae τ,jC⟩
theorem aFG (A:Option Addr) (c:Nat) (T:List bD) (S:List cj) (o:aN) (w:World) (cr:bD.rep.aG 40 w A c T) (hS:mI w T S) (cc:o.ok):
  Calls prog 53 #[.slice A T.length c, .agg #[J o.by_,J o.kind,J o.aW,J o.spot.x,J o.spot.y,J o.what]] w (λ e w'=>∃ (e':Int) (bL:Option Addr) (bX:Nat) (j9:List bD) (oM:List cj),e= .returned (.tuple #[.slice bL j9.length bX,J e'])∧acq (Nn S o) (Gk S o) e' oM∧bD.rep.aH 163 40 w' w.heap.size (aa.aj bL) bL bX j9∧fc w' w.heap.size j9 oM∧(∀ q∈aa.aj bL,q∉gj j9)∧Ext w w'):=by
 have Ir:=cr.eZ;have Q9:=cr.2.2.1;refine b' (n:=58) func53 Z Z Z ?_;refine ah<|ck Z Z Z Z λ cK bR bq dU ai=> ?_;have ba:=ab (Ext.bg w) bq;have ib:=ai.lt;refine va Z<|va Z<|ag<|ah<|vm Z<|ca P9 Z Z ((St _ _ T S _ (cr.keep ba) (hS.keep ba)).mono ?_);rintro e tk ⟨J5,rfl,agp,br⟩;refine ⟨_,Z, ?_⟩;have:=br.size;have jC:=ab ba br;refine va Z<|ag<|ay<|ah<|vm Z<|Φ (beq Z Z)<|ag<| ?_;refine jo Z (λ qL=> ?_) (λ qL=> ?_)
 ·have Fm:=agp.1 (by simpa using qL);refine rg<| ?_;have ai:=ai.later br;refine Φ (ao Z (ai.all jc fl))<|ca VN Z Z ((Za o _).mono ?_);rintro e Af ⟨rfl,l2⟩;refine ⟨_,Z, ?_⟩;have:=l2.size;have iL:=ab jC l2;refine va Z<|ag<|ay<|bu<|ah<|vm Z<|Φ (bne Z Z)<|va Z<|ag<| ?_;refine ee Z (λ pQ=> ?_) (λ pQ=> ?_)
  ·refine ei<|bU<|aP<|ay<|ah<|vm Z<|Φ (bne Z Z)<|ag<| ?_;refine ee Z (λ Fp=> ?_) (λ Fp=> ?_)
   ·refine ah<|vm Z<|va Z<|va Z<|ag<|rt<|bP<|aV (.tmp Z (.tmp Z .nil))<| ?_;exact ⟨o.bn,none,0, [], [],Z, .inr ⟨(by omega),(λ bc=>absurd bc.2.1 (by simpa using pQ)),Z⟩,aa.aH.nil _,fc.nil _ _,λ q I=>by simp [aa.aj] at I,iL⟩
   ·exfalso;omega
  ·have oX:o.bn=0:=by simpa using pQ
   have cN:=adn oX;refine ah<|Φ (av rB Z)<| ?_;have ai:=ai.later l2;refine Φ (ao Z (ai.one a6 Z))<|vm Z<|Φ (cl underlying34 Z)<|Φ (j_ Z Z)<|va Z<|ag<| ?_;refine CZ Z (λ lf=> ?_) (λ lf=> ?_)
   ·refine rg<|va Z<|nl<|bU<|aP<|ay<|ah<|vm Z<|Φ (bne Z Z)<|ag<|fH Z<|ah<|vm Z<|va Z<|va Z<|ag<|rt<|bP<|aV (.tmp Z (.tmp Z .nil))<| ?_;exact ⟨7,none,0, [], [],Z, .inr ⟨(by decide),(by rintro ⟨_,_,s,hs,_⟩;have:=(aTC.1 hs).1;have:=hS.len;omega),Z⟩,aa.aH.nil _,fc.nil _ _,λ q I=>by simp [aa.aj] at I,iL⟩
   ·have bA:o.by_.toNat<T.length:=by omega
    obtain ⟨eF,dC,bk,gw,jG,hx⟩:=hS.at_ bA;refine ah<|vm Z<|Φ (av rB Z)<|Φ (ao Z (ai.one a6 Z))<|Φ (bT o.by_.toNat underlying34 iB Z Z ((cr.keep iL).bs (aO o.by_.toNat)) (by omega) (by omega))<|Φ (av Fb Z)<|Φ (v:= .bool bk.gone) (ao Z (aa.aG.jT mQ ((cr.keep iL).cg (aO o.by_.toNat)) 2 gw Z Da))<|va Z<|ag<| ?_;refine dn Z (λ n3=> ?_) (λ n3=> ?_)
    ·refine rg<|va Z<|nl<|bU<|aP<|ay<|ah<|vm Z<|Φ (bne Z Z)<|ag<|fH Z<|ah<|vm Z<|va Z<|va Z<|ag<|rt<|bP<|aV (.tmp Z (.tmp Z .nil))<| ?_;exact ⟨9,none,0, [], [],Z, .inr ⟨(by decide),(by rintro ⟨_,_,s,hs,aM,_⟩;rw [jG] at hs;obtain rfl:=aTA hs;rw [n3] at aM;cases aM),Z⟩,aa.aH.nil _,fc.nil _ _,λ q I=>by simp [aa.aj] at I,iL⟩
    ·refine ah<|vm Z<|Φ (av rB Z)<|Φ (ao Z (ai.one a6 Z))<|Φ (bT o.by_.toNat underlying34 iB Z Z ((cr.keep iL).bs (aO o.by_.toNat)) (by omega) (by omega))<|Φ (av pL Z)<|Φ (v:= .slice eF bk.waits.length dC) (ao Z (aa.aG.jT mQ ((cr.keep iL).cg (aO o.by_.toNat)) 0 gw Z mM))<|Φ (cl underlying48 Z)<|Φ (beq Z Z)<|va Z<|ag<| ?_;refine jo Z (λ Bn=> ?_) (λ Bn=> ?_)
     ·refine rg<|va Z<|nl<|bU<|aP<|ay<|ah<|vm Z<|Φ (bne Z Z)<|ag<|fH Z<|ah<|vm Z<|va Z<|va Z<|ag<|rt<|bP<|aV (.tmp Z (.tmp Z .nil))<| ?_;exact ⟨6,none,0, [], [],Z, .inr ⟨(by decide),(by rintro ⟨_,_,s,hs,_,aC⟩;rw [jG] at hs;obtain rfl:=aTA hs;omega),Z⟩,aa.aH.nil _,fc.nil _ _,λ q I=>by simp [aa.aj] at I,iL⟩
     ·have ahI:bk.waits.length≤50:=(Fm.2.2 _ bk jG).1;have azH:bk.waits.length≠50:=by omega
      refine ei<|bU<|aP<|ay<|ah<|vm Z<|Φ (bne Z Z)<|ag<| ?_;refine ee Z (λ vE=> ?_) (λ vE=> ?_)
      ·exfalso;omega
      ·refine bl<|ah<|vm Z<|ca VW Z Z ((Z9 _ _ T S _ (cr.keep iL) (hS.keep iL)).mono ?_);rintro e q3 ⟨aa5,aLR,UR,rfl,CK,abX,agx,cX⟩;refine ⟨_,Z, ?_⟩;have:=cX.size;have ie:=ab iL cX;have uB:=b7 CK.lt;refine va Z<|ag<|ay<| ?_;have awQ:UR.length=T.length:=by have:=abX.yc.len;have:=hS.len;omega
       obtain ⟨uO,oO,al1,H_,QN,Ks,CD,lj,ahK⟩:=abX.out (k:=o.by_.toNat) (by omega);obtain rfl:bk=al1:=by rw [jG] at QN;exact aTA QN
       have aAF:=dM Ks.lt;have PY:∀ q∈aa.aj uO,q∈aa.aj aa5→False:=λ q τ ae=>agx q ae (lj q τ);have aGt:=b7 CD.lt;have PX:∀ q∈gj (UR.set (o.by_.toNat) ⟨none,0,0,bk.late,bk.gone⟩),q∈aa.aj aa5→False:=λ q τ ae=>agx q ae (ahK q τ).1;have aeg:∀ q∈gj (UR.set (o.by_.toNat) ⟨none,0,0,bk.late,bk.gone⟩),q∈aa.aj uO→False:=λ q τ ae=>(ahK q τ).2 ae;refine Sn (aa.aj uO) [(2,0),(5,0),(8,0),(9,0),(10,2),(11,2),(14,3)] [0,1,2,3,4,5,6,7,8,9,10,11,12,13,14] (by kernel_rfl) (by kernel_rfl) ?_;refine jF Z Z (λ _=>hy Z) Z<|jF Z Z (λ _=>av rB Z) Z<| ?_;have ai:=ai.later cX;have VB:∀ q∈aa.aj uO,q=bR→False:=λ q I γ=>by (have:=aAF q I;omega)
       refine zo Z Z (λ _ x=>ao Z ((ai.mod x (λ I=>VB _ I Z)).one a6 Z)) Z<|jF Z Z (λ _=>hy Z) Z<|jF Z Z (λ _=>av rB Z) Z<|zo Z Z (λ _ x=>ao Z ((ai.mod x (λ I=>VB _ I Z)).one a6 Z)) Z<|jF Z Z (λ _=>bT o.by_.toNat underlying34 iB Z Z (CK.has.bs (aO o.by_.toNat)) (by omega) (by omega)) Z<|jF Z Z (λ _=>av pL Z) Z<|zo (v:= .slice uO bk.waits.length oO) Z Z (λ _ x=>ao Z (aa.aG.jT mQ ((CK.mod x (λ q I h=>PY q h I)).has.cg (aO o.by_.toNat)) 0 H_ Z mM)) Z<|zo Z Z (λ _ x=>ao Z ((ai.mod x (λ I=>VB _ I Z)).all jc fl)) Z<|Fj Z Z Z λ sj fx Q hK=>cu (e:= 69) (cs:= [J o.by_,J o.kind,J o.aW,J o.spot.x,J o.spot.y,J o.what]) Z (λ _=>by kernel_rfl) Z λ th aqQ jl aAM JY=>hK _ _ ⟨Mod.bt (ab fx jl), ?_⟩;have:=fx.size;have hU:=ab ie fx;have iY:=ab hU jl;have aDX:=JY.lt;have Ks:=Ks.later (ab fx jl);refine Fj Z Z Z λ tj fy Q hK=>ap aqg aa.dj (Ks.later fy) ((aR.gY (R:=aN.rep) (by_:=48) (q:=o) JY ⟨Z,cc⟩ (by decide)).keep fy) Z Z (by first | (simp<;>omega) | omega) (by first | (simp<;>omega) | omega) (by have:=fy.size;omega) Z λ S9 anQ arS o9 UH WK aQv=>hK _ _ ⟨(Mod.bt fy).trans o9, ?_⟩;have:=fy.size;have kn:=ab iY fy;have Ch:=Ext.mod kn o9 (λ q I=>aUc (by omega) ((Ks.later fy).lt q I).1);have CK:=(CK.later (ab fx (ab jl fy))).mod o9 (λ q I h=>PY q h I);refine jF Z Z (λ _=>bT o.by_.toNat underlying34 iB Z Z (CK.has.bs (aO o.by_.toNat)) (by omega) (by omega)) Z<|jF Z Z (λ _=>av pL Z) Z<|Wn Z Z Z λ GA kD Q hK=>so (q':=(⟨anQ,(bk.waits++ [o]).length,arS,(⟨uO,bk.waits.length,oO,bk.late,bk.gone⟩:bD).late,(⟨uO,bk.waits.length,oO,bk.late,bk.gone⟩:bD).gone⟩:bD)) (j:=0) (i:=o.by_.toNat) (CK.later kD) aa.dj H_ Z Z Z Z (λ _ cs h=>by have qe:=(show _∧_ from h).2;obtain rfl:=mQ h;exact ⟨rfl,qe⟩) Z Z zh λ aHw YZ UI=>hK _ _ ?_;have py:=ab Ch kD;have aa3:=Ext.mod py YZ (λ q I=>aUc (by omega) ((CK.later kD).lt q I).1);refine Qq λ JA iJ=> ?_;have uJ:=ab aa3 iJ;refine aP<|ah<|vm Z<|va Z<|va Z<|ag<|rt<|aV (.tmp Z (.tmp Z .nil))<| ?_;have UI:=UI.later iJ;have CD:=((((CD.later (ab fx (ab jl fy))).mod o9 (λ q I h=>aeg q I h)).later kD).mod YZ (λ q I h=>PX q I h)).later iJ;have UH:=((UH.later kD).mod YZ (λ q I h=>by exfalso;(exact aTT (WK q I) (λ aiY=>by (exact PY q aiY h)) (λ aiY=>by (have:=uB q h;omega))))).later iJ;have bj:=fc.back (s:=⟨bk.waits++ [o],bk.late,bk.gone⟩) CD (by omega) UH (λ q τ ae=>by exfalso;(exact aTT (WK q ae) (λ aiZ=>by (exact aeg q τ aiZ)) (λ aiZ=>by (have:=aGt q τ;omega))));exact ⟨0,_,_,_,Gk S o,by rw [aTH];rfl, .inl ⟨rfl,⟨Fm,oX,bk,jG,by simpa using n3,azH⟩,rfl⟩,UI.down (by omega),by rw [alj jG];exact bj.down (by omega),λ q τ ae=>(Nq ae).elim (λ ae=>PX q ae τ) (λ ae=>by exfalso;(exact aTT (WK q ae) (λ MG=>by (exact PY q MG τ)) (λ MG=>by (have:=uB q τ;omega)))),uJ⟩
 ·refine bl<|ay<|bu<|ah<|vm Z<|Φ (bne Z Z)<|va Z<|ag<| ?_;refine ee Z (λ axh=> ?_) (λ axh=> ?_)
  ·refine ei<|bU<|aP<|ay<|ah<|vm Z<|Φ (bne Z Z)<|ag<| ?_;refine ee Z (λ axi=> ?_) (λ axi=> ?_)
   ·refine ah<|vm Z<|va Z<|va Z<|ag<|rt<|bP<|aV (.tmp Z (.tmp Z .nil))<| ?_;exact ⟨J5,none,0, [], [],Z, .inr ⟨(by simpa using qL),(λ bc=>(show ¬ J5=0 by simpa using qL) (agp.2 bc.1)),Z⟩,aa.aH.nil _,fc.nil _ _,λ q I=>by simp [aa.aj] at I,jC⟩
   ·exfalso;omega
  ·exfalso;omega
theorem aFq (A:Option Addr) (c:Nat) (T:List bD) (S:List cj) (p:Int) (w:World) (cr:bD.rep.aG 40 w A c T) (hS:mI w T S):
  Calls prog 100 #[.slice A T.length c,J p] w (λ e w'=>∃ (e':Int) (bL:Option Addr) (bX:Nat) (j9:List bD) (oM:List cj),e= .returned (.tuple #[.slice bL j9.length bX,J e'])∧acq (ajy S p) (BA S p) e' oM∧bD.rep.aH 163 40 w' w.heap.size (aa.aj bL) bL bX j9∧fc w' w.heap.size j9 oM∧(∀ q∈aa.aj bL,q∉gj j9)∧Ext w w'):=by
 have Ir:=cr.eZ;have Q9:=cr.2.2.1;refine b' (n:=37) func100 Z Z Z ?_;refine ah<|va Z<|va Z<|ag<|ah<|vm Z<|ca P9 Z Z ((St _ _ T S _ (cr.keep (Ext.bg w)) (hS.keep (Ext.bg w))).mono ?_);rintro e iH ⟨Ez,rfl,sV,bq⟩;refine ⟨_,Z, ?_⟩;have:=bq.size;have b9:=ab (Ext.bg w) bq;refine va Z<|ag<|ay<|bu<|ah<|vm Z<|Φ (bne Z Z)<|va Z<|ag<| ?_;refine ee Z (λ lg=> ?_) (λ lg=> ?_)
 ·refine ei<|bU<|aP<|ay<|ah<|vm Z<|Φ (bne Z Z)<|ag<| ?_;refine ee Z (λ jr=> ?_) (λ jr=> ?_)
  ·refine ah<|vm Z<|va Z<|va Z<|ag<|rt<|bP<|aV (.tmp Z (.tmp Z .nil))<| ?_;exact ⟨Ez,none,0, [], [],Z, .inr ⟨(by simpa using lg),(λ bc=>(show ¬ Ez=0 by simpa using lg) (sV.2 bc.1)),Z⟩,aa.aH.nil _,fc.nil _ _,λ q I=>by simp [aa.aj] at I,b9⟩
  ·exfalso;omega
 ·have Fm:=sV.1 (by simpa using lg);refine ah<|vm Z<|Φ (blt Z Z)<|vm Z<|eN Z Z<|eN Z Z<|bh Z (λ hc=>cl underlying34 (gt hc Z))<|bh Z (λ hc=>j_ (gt hc Z) (gt hc Z))<|Φ (fC Z Z Z Z)<|va Z<|ag<| ?_;refine dn Z (λ ud=> ?_) (λ ud=> ?_)
  ·simp only [ch] at ud;refine rg<|va Z<|nl<|bU<|aP<|ay<|ah<|vm Z<|Φ (bne Z Z)<|ag<|fH Z<|ah<|vm Z<|va Z<|va Z<|ag<|rt<|bP<|aV (.tmp Z (.tmp Z .nil))<| ?_;exact ⟨7,none,0, [], [],Z, .inr ⟨(by decide),(by rintro ⟨_,aK,s,hs,_⟩;have:=(aTC.1 hs).1;have:=hS.len;omega),Z⟩,aa.aH.nil _,fc.nil _ _,λ q I=>by simp [aa.aj] at I,b9⟩
  ·simp only [ch] at ud;have bA:p.toNat<T.length:=by omega
   have ay4:0≤p:=by omega
   obtain ⟨eF,dC,bk,gw,jG,hx⟩:=hS.at_ bA;refine ah<|vm Z<|vm Z<|Φ (bT p.toNat underlying34 iB Z Z ((cr.keep b9).bs (aO p.toNat)) (by omega) (by omega))<|Φ (av Fb Z)<|Φ (v:= .bool bk.gone) (ao Z (aa.aG.jT mQ ((cr.keep b9).cg (aO p.toNat)) 2 gw Z Da))<|va Z<|ag<| ?_;refine dn Z (λ oW=> ?_) (λ oW=> ?_)
   ·refine rg<|va Z<|nl<|bU<|aP<|ay<|ah<|vm Z<|Φ (bne Z Z)<|ag<|fH Z<|ah<|vm Z<|va Z<|va Z<|ag<|rt<|bP<|aV (.tmp Z (.tmp Z .nil))<| ?_;exact ⟨8,none,0, [], [],Z, .inr ⟨(by decide),(by rintro ⟨_,_,s,hs,aM⟩;rw [jG] at hs;obtain rfl:=aTA hs;rw [oW] at aM;cases aM),Z⟩,aa.aH.nil _,fc.nil _ _,λ q I=>by simp [aa.aj] at I,b9⟩
   ·refine ei<|bU<|aP<|ay<|ah<|vm Z<|Φ (bne Z Z)<|ag<| ?_;refine ee Z (λ kt=> ?_) (λ kt=> ?_)
    ·exfalso;omega
    ·refine bl<|ah<|vm Z<|ca VW Z Z ((Z9 _ _ T S _ (cr.keep b9) (hS.keep b9)).mono ?_);rintro e Af ⟨aJb,aLM,aqn,rfl,Ut,OP,agw,l2⟩;refine ⟨_,Z, ?_⟩;have iL:=ab b9 l2;refine va Z<|ag<|ay<| ?_;have awQ:aqn.length=T.length:=by have:=OP.yc.len;have:=hS.len;omega
     refine rg<|vm Z<|vm Z<|Φ (v:= .agg #[.slice none 0 0,J 0, .bool true]) (cY Z (by kernel_rfl))<|Φ (bT p.toNat underlying34 iB Z Z (Ut.has.bs (aO p.toNat)) (by omega) (by omega))<|Gn (q':=(⟨none,0,0,0,true⟩:bD)) (i:=p.toNat) Ut aa.dj (by omega) Z Z Z Z (λ _=>⟨Z,bY.2 (by (try dsimp only);omega)⟩) iB λ wk ur O_=> ?_;have km:=Ext.mod iL ur (λ q I=>aUc (by omega) (Ut.lt q I).1);refine ag<|ah<|vm Z<|va Z<|va Z<|ag<|rt<|aV (.tmp Z (.tmp Z .nil))<| ?_;have OP:=OP.mod ur (λ q I h=>agw q h I);have bj:=fc.set (A:=none) (c:=0) (s:=⟨[],0,true⟩) (k:=p.toNat) OP (by omega) (aa.aH.nil _) (λ i u _ _ q _ I=>by simp [aa.aj] at I);exact ⟨0,_,_,_,BA S p,by rw [aTH];rfl, .inl ⟨rfl,⟨Fm,ay4,bk,jG,by simpa using oW⟩,rfl⟩,O_.down (by omega),bj.down (by omega),λ q τ ae=>(Nq ae).elim (λ ae=>agw q τ (Su ae)) (λ ae=>by simp [aa.aj] at ae),km⟩
theorem aFv (n:Nat) (τ:1≤n) (fq:n≤8) (w:World):
  Calls prog 27 #[J (n:Int)] w (λ e w'=>∃ (bL:Option Addr) (bX:Nat),e= .returned (.tuple #[.slice bL (List.replicate n (default:bD)).length bX,J 0])∧bD.rep.aH 163 40 w' w.heap.size (aa.aj bL) bL bX (List.replicate n default)∧fc w' w.heap.size (List.replicate n default) (List.replicate n ⟨[],0,false⟩)∧(∀ q∈aa.aj bL,q∉gj (List.replicate n (default:bD)))∧Ext w w'):=by
 refine b' (n:=12) func27 Z Z Z ?_;refine ah<|va Z<|va Z<|ag<|ay<|ah<|vm Z<|Φ (blt Z Z)<|vm Z<|eN Z Z<|bh Z (λ hc=>hM (gt hc Z) Z)<|Φ (fC Z Z Z Z)<|ag<| ?_;refine dn Z (λ gA=> ?_) (λ gA=> ?_)
 ·simp only [ch] at gA;exfalso;omega
 ·simp only [ch] at gA;refine bl<|ah<|vm Z<|aBu (R:=bD.rep) (by_:=40) (B:=w.heap.size) (c:=n) (zv:=bD.zero) (q:=default) aa.n1 underlying34 bD.info Z (by decide) bD.ix (λ _=>⟨Z,bY.2 (by decide)⟩) Z Z Z (by omega) (by omega) (by omega) λ iH AY m8 MK apN=> ?_;have b9:=ab (Ext.bg w) m8;refine va Z<|va Z<|ag<|rt<|aV (.tmp Z (.tmp Z .nil))<| ?_;exact ⟨some ⟨AY,0,none⟩,n,by rw [aUe];rfl,apN,fc.aEm _ _ _,λ q τ ae=>alm ae,b9⟩
end
end Go.Proofs.YtmeeljmapailnaaGreat
