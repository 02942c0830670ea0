import Derived.Test.YtlikikpgmmkjbaaGreatCrcW
set_option linter.unusedVariables false
set_option linter.unusedSimpArgs false
set_option maxRecDepth 100000
set_option maxHeartbeats 4000000
open Go.RowKit
namespace Go.Proofs.YtlikikpgmmkjbaaGreat
open Tryz
abbrev aUT:=@List.mem_flatMap
abbrev aVD:=@List.length_finRange
end Go.Proofs.YtlikikpgmmkjbaaGreat
namespace Go.Proofs.YtlikikpgmmkjbaaGreat.eu
open Tryz
open Go.RowKit Go.Proofs.YtlikikpgmmkjbaaGreat.eV
def lA (n:BitVec 32):List UInt8:= [UInt8.ofNat n.toNat,UInt8.ofNat (n.toNat / 256),UInt8.ofNat (n.toNat / 65536),UInt8.ofNat (n.toNat / 16777216)]
def sD (s:ByteArray):ByteArray:=s++⟨(lA (of s.data.toList)).toArray⟩
theorem XV (s:ByteArray):(sD s).data.toList=s.data.toList++lA (of s.data.toList):=by
 unfold sD;rw [ByteArray.data_append,aUq]
theorem L_ (s:ByteArray):(sD s).size=s.size+4:=by
 have h:=aRS List.length (XV s);rw [aQU] at h;simp only [aSp] at h;exact h

theorem apF (n:BitVec 32) (u:World):(convert 76 9 (.slice (some ⟨u.heap.size,0,none⟩) 4 4)).run prog (u.alloc (.cells #[.int .u8 (U n % 256), .int .u8 (U n / 256 % 256), .int .u8 (U n / 65536 % 256), .int .u8 (U n / 16777216 % 256)] 5))=
  .ok (.string ⟨(lA n).toArray⟩) (u.alloc (.cells #[.int .u8 (U n % 256), .int .u8 (U n / 256 % 256), .int .u8 (U n / 65536 % 256), .int .u8 (U n / 16777216 % 256)] 5)):=by
 refine aTm (P:=prog) _ 76 9 5 ⟨u.heap.size,0,none⟩ 4 (lA n) underlying76 underlying5 underlying9 ?_;intro j ay;rw [aba];have ava:j<4:=ay;have Pk:U n=(n.toNat:Int):=rfl;rw [Pk]
 match j,ava with
 | 0,_=>simp [lA,aSU]
 | 1,_=>simp [lA,aSU]
 | 2,_=>simp [lA,aSU]
 | 3,_=>simp [lA,aSU]

theorem XW (s:ByteArray) (hs:s.size≤9223372036854775800) (w:World):
  Calls prog 115 #[.string s] w fun e w'=>e= .returned (.string (sD s))∧Below w.heap.size w w':=by
 have hcv:=apF (of s.data.toList);have az:(lA (of s.data.toList)).length≤4:=aQW _;go_enter func115,ntmps115;go_wp2_with (go_at_call 154;refine (Xf _ (by omega) _).mono ?_;rintro e w' ⟨rfl,rfl⟩)
 go_ret;exact ⟨Z,(aRe _ _).alloc (aQW _) _⟩
def kz (s:ByteArray):ByteArray×Int :=
 if s.size<4 then (⟨#[]⟩,3) else if sD (s.extract 0 (s.size - 4))=s then (s.extract 0 (s.size - 4),0) else (⟨#[]⟩,5)

theorem XL {a b:ByteArray×Int} (h:b=a):Ending.returned (.tuple #[.string a.1, .int .i64 a.2])= .returned (.tuple #[.string b.1, .int .i64 b.2]):=by rw [h]

theorem azp (s:ByteArray) (hs:s.size≤9223372036854775800) (w:World):
  Calls prog 84 #[.string s] w fun e w'=>e= .returned (.tuple #[.string (kz s).1, .int .i64 (kz s).2])∧Below w.heap.size w w':=by
 by_cases aX:s.size<4
 ·have bT:=aQO (show kz s=(⟨#[]⟩,3) by unfold kz;rw [aQZ aX]);go_enter func84,ntmps84;go_wp2_with fail
  go_ret2
  exact ⟨XL bT.out,aRe _ _⟩
 ·have hm:((s.size:Int) - 4)=((s.size - 4:Nat):Int):=by omega
  have bB:(s.extract 0 (s.size - 4)).size≤9223372036854775800:=by rw [ByteArray.size_extract];omega
  obtain ⟨m,kJ⟩:∃ m,Hid (m=s.size - 4):=⟨_,rfl⟩;rw [← kJ.out] at hm bB;have avC:m+4≤s.size:=by have:=kJ.out;omega
  have aJC:s.size≤m+4:=by have:=kJ.out;omega
  by_cases bF:sD (s.extract 0 m)=s
  ·have bT:=aQO (show kz s=(s.extract 0 m,0) by unfold kz;rw [← kJ.out,aQV aX,aQZ bF]);have atC:=abL bF;have uK:=aQO bF;clear bF;go_enter func84,ntmps84;go_wp2_with (go_at_call 115;refine (XW _ bB _).mono ?_;rintro e aP ⟨rfl,Φ⟩)
   go_ret2
   exact ⟨XL bT.out,by assumption⟩
  ·have bT:=aQO (show kz s=(⟨#[]⟩,5) by unfold kz;rw [← kJ.out,aQV aX,aQV bF]);have atC:=abJ bF;clear bF;go_enter func84,ntmps84;go_wp2_with (go_at_call 115;refine (XW _ bB _).mono ?_;rintro e aP ⟨rfl,Φ⟩)
   go_ret2
   exact ⟨XL bT.out,by assumption⟩

theorem azq (s:ByteArray):kz (sD s)=(s,0):=by
 have γ:(sD s).extract 0 ((sD s).size - 4)=s:=by
  apply Ti;rw [aT3,XV,L_,aTj];have e:s.size+4 - 4 - 0=s.data.toList.length:=by simp
  rw [e,aUh]
 have ab:=L_ s;unfold kz;rw [aQV (by omega),γ,aQZ rfl]
theorem aiV (s:ByteArray):(kz s).2=0∧sD (kz s).1=s∨((kz s).2=3∨(kz s).2=5)∧(kz s).1=⟨#[]⟩:=by
 unfold kz;split
 ·exact .inr ⟨.inl Z,Z⟩
 ·split
  ·rename_i h;exact .inl ⟨Z,h⟩
  ·exact .inr ⟨.inr Z,Z⟩
end Go.Proofs.YtlikikpgmmkjbaaGreat.eu
namespace Go.Proofs.YtlikikpgmmkjbaaGreat
open Tryz
section
theorem apx (A:Option Addr) (len c n:Nat) (w:World) (hn:1≤n):
  Calls prog 86 #[.slice A len c, .int .i64 (n:Int)] w (λ e w'=>∃ eZ gm,e= .returned (.func (.func 121) #[] #[.pointer (some ⟨eZ,0,none⟩), .pointer (some ⟨gm,0,none⟩)])∧aQ w' eZ [.slice A len c] 22 (0,0)∧aQ w' gm [.int .i64 (n:Int)] 3 (0,0)∧w.heap.size≤eZ∧eZ<gm∧Ext w w'):=by
 refine cd (n:=9) func86 Z Z Z ?_;refine aj<|cB Z Z Z Z λ cO bJ ba eb aa=> ?_;have:=ba.size;have bk:=κ (Ext.bI w) ba;have eh:=aa.lt;refine cB Z Z Z Z λ eA cC bm hT ah=> ?_;have:=bm.size;have bO:=κ bk bm;have hI:=ah.lt;refine va Z<|ai<|aB<|aj<|J (ao Z (ah.one bd Z))<|J (blt Z Z)<|ai<| ?_;have ib:(decide ((n:Int)<1))=false:=by rw [aRu];omega
 refine hC (by rw [← ib];rfl)<|bs<|aj<|J (LM Z Z)<|va Z<|ai<|rt<|bb (.tmp Z .nil)<| ?_;have aa:=aa.later bm;exact ⟨bJ,cC,Z,aa,ah,by omega,by omega,bO⟩
theorem apz (q n len c eZ gm:Nat) (A:Option Addr) (w0:World) (hn:1≤n) (hlen:len=q * n) (avl:len≤c) (rh:c≤9223372036854775807) (m:Nat) (Zr:aQ w0 eZ [.slice A len c] 22 (0,0)) (Zs:aQ w0 gm [.int .i64 (n:Int)] 3 (0,0)):
  SeqStopsK (jM none) m prog 121 #[.pointer (some ⟨eZ,0,none⟩), .pointer (some ⟨gm,0,none⟩)] (λ k:Fin q=>#[.slice (e1 A (k.1 * n+n) (k.1 * n) 1) n n]) (zF eZ gm) (λ xs=>xs=List.finRange q) (λ _=>True) q w0:=by
 intro l iX aGo W Φ auk aI7 atU au8;have vW:=Zr.Qb (Φ.block eZ Zr.lt);have xS:=Zs.Qb (Φ.block gm Zs.lt);have yu:DB W.heap.size iX [] W:=⟨auk,au8⟩;refine Rd.apd (n:=31) func121 Z Z Z ?_;refine Rd.aB<|Rd.rg<|va Z<|nl<|Rd.aV<|Rd.bR<| ?_;refine Rd.fg (λ cm cl a6=>∃ k:Nat,cl= [(0, .func (.yield l) #[] #[]),(1, .pointer (some ⟨eZ,0,none⟩)),(2, .pointer (some ⟨gm,0,none⟩)),(4, .int .i64 (((k * n:Nat):Int)))]∧cm=q - k∧True∧aQ a6 eZ [.slice A len c] 22 (0,0)∧aQ a6 gm [.int .i64 (n:Int)] 3 (0,0)∧DB W.heap.size iX ((List.finRange q).take k) a6∧(k≤q)) _ _ ⟨0,Z,Z,trivial,vW,xS,(yu:DB W.heap.size iX [] _),by omega⟩ (.cons Z (.cons Z (.cons Z (.cons (b2 Z (by first | omega | rfl | (simp<;>omega))) .nil)))) ?_;rintro LJ II cO ⟨k,rfl,rfl,bk,vW,xS,yu,av⟩;have aNV:=vW.lt;have aN2:=xS.lt;have hc:=k;refine Rd.aB<|Rd.aB<|Rd.rg<|vm Z<|J (ao Z (vW.one fK Z))<|J (cu underlying22 Z)<|J (blt Z Z)<|nl<|Rd.aV<| ?_;refine Rd.ef Z (λ mj=> ?_) (λ mj=> ?_)
 ·have G8:k<q:=Nat.lt_of_mul_lt_mul_right (a:=n) (by omega);have VT:k * n+n≤q * n:=by rw [← aSq];exact aRx _ G8
  refine Rd.e6<|Rd.aV<|Rd.aB<|Rd.bR<|Rd.aB<| ?_;refine Rd.rd [(0,0),(1,0)] [0,1,2,3,4,5,6] (by kernel_rfl) (by kernel_rfl) ?_;refine bE Z (λ _ x=>ao Z ((xS.later x).one bd Z))<|bE Z (λ _ x=>ao Z ((vW.later x).one fK Z))<|aq Z (λ _=>aH Z)<|aq Z (λ _=>aBg (k * n) underlying22 dr Z Z Z (by omega))<|aq Z (λ _=>cu underlying22 Z)<|aq Z (λ _=>nR Z Z)<|aq Z (λ _=>eY Z)<|fn λ Fo nw=> ?_;have:=nw.size;refine Rd.aV<|Rd.aB<|oe.rg<|oe.h6 (aH Z) Z<| ?_;have vW:=vW.later nw;refine oe.h6 (ao Z (vW.one fK Z)) Z<|oe.h6 (aH Z) Z<|oe.h6 (aH Z) Z<|oe.h6 (aH Z) Z<|oe.h6 (bad Z Z (bG (by omega))) Z<|oe.h6 (aH Z) Z<|oe.h6 (aH Z) Z<|oe.h6 (bad Z Z (bG (by omega))) Z<|oe.h6 (aBf (k * n) (k * n+n) n underlying22 dr Z Z Z Z Z (by omega) (by omega) (by omega) (by omega) (by omega)) Z<| ?_;have xS:=xS.later nw;have yu:=yu.later nw;refine oe.aEr Z Z Z (aEs (atU _ (⟨k,G8⟩:Fin q) _ yu.at_ (by rw [aQP,aVD];omega)) ?_);rintro e aly kR;obtain ⟨td,rfl,γ,ab⟩:=aEt kR;refine ⟨_,Z, ?_⟩
  replace γ:td=true→DB W.heap.size iX ((List.finRange q).take k++ [⟨k,G8⟩]) aly∧zF eZ gm _ aly:=λ h=>⟨⟨yu.SX,(γ h).1⟩,(γ h).2⟩
  refine oe.h6 (eg Z) Z<|oe.nl<|Rd.aV<| ?_;refine Rd.dT Z (λ j7=> ?_) (λ j7=> ?_)
  ·refine Rd.rt<|ej<|Rd.bN<|lK<|ej<|bb .nil<| ?_;exact ⟨⟨_,Z⟩, .inr ⟨_,trivial,ab (by simpa using j7)⟩⟩
  ·obtain ⟨atJ,fZ⟩:=γ (by simpa using j7);have vW:=vW.Qb fZ.1;have xS:=xS.Qb fZ.2;refine Rd.e6<|Rd.bX<|Rd.aV<|Rd.rg<|vm Z<|J (ao Z (xS.one bd Z))<|J (bad Z Z (bG (by omega)))<|va Z<|nl<| ?_;exact Rd.c' _ _ ⟨k+1,Z,Z,trivial,vW,xS,(by rw [← asG G8];exact atJ),by omega⟩ (by omega) (.cons Z (.cons Z (.cons Z (.cons (b2 Z (by rw [aSq];omega)) .nil))))
 ·have G8:k=q:=Nat.le_antisymm av (Nat.le_of_mul_le_mul_right (c:=n) (by omega) hn);refine Rd.dN<|Rd.dL<|ed<|Rd.dK<|Rd.ne<|bb .nil<| ?_;exact ⟨⟨_,Z⟩, .inl ⟨_,Z,by have:=yu.at_;rwa [G8,aRb (by rw [aVD];omega)] at this⟩⟩
end
section
def HT:τ UInt8:=τ.flat 1 (λ b=> [.int .u8 (b.toNat:Int)]) (λ _=>True) (λ _ u=>∃ n:Int,u= .int .u8 n) (λ _=>rfl) (by intro a u hu;simp at hu;subst hu;rfl) (by
 intro a j u hu;cases j with
 | zero=>simp at hu;exact ⟨_,hu.symm⟩
 | succ j=>simp at hu)
theorem auC {w:World} {cs:List Value} {a:UInt8} (h:HT.has w cs a):cs= [.int .u8 (a.toNat:Int)]:=aSO (show cs= [.int .u8 (a.toNat:Int)]∧True from h)
theorem aA0 {by_:Nat} {w:World} {A:Option Addr} {c:Nat} {l:List UInt8} (h:HT.aI by_ w A c l) (aF:0<l.length):∃ b o,A=some ⟨b,o,none⟩∧∀ (i:Nat) (a:UInt8),l[i]? =some a→w.cell? ⟨b,o+i,none⟩=some (.int .u8 (a.toNat:Int)):=by
 obtain ⟨b,o,e,hc⟩:=h.at_ aF;refine ⟨b,o,e,λ i a ha=> ?_⟩;obtain ⟨es,⟨rfl,_⟩,ay⟩:=hc i a ha;have:=ay 0 _ rfl;simpa [HT,τ.flat] using this
def r7 (l:List UInt8):ByteArray:=⟨l.toArray⟩
section
variable {P:Program} {n:Nat} {E cR:List (Nat×Value)} {w:World} {d:Option Nat} {ty:TypeId} {pos:String} {af:Array Edge} {g:Option (Nat×Bool)} {x y z u:Operand} {t t2:TypeId}
theorem apK {e:TypeId} {A:Option Addr} {c:Nat} {l:List UInt8} {by_:Nat} (hs:P.underlying t=some (.slice e)) (he:P.underlying e=some (.int .u8)) (hd:P.underlying t2=some .string) (h:HT.aI by_ w A c l) (hx:ev E x=some (.slice A l.length c)):
  cN P E ⟨d, .convert t t2 x,ty,pos,af,g⟩ w (.string (r7 l)) w:=λ n a ha=>by
 have hr:(convert t t2 (.slice A l.length c)).run P w= .ok (.string (r7 l)) w:=by
  cases A with
  | none =>
   have hc:c=0:=h.2.2.2.1 rfl;have az:l= []:=aRd (by have:=h.1;omega);subst az;subst hc;show (convert t t2 (.slice none 0 0)).run P w=_;rw [run_convert_bytes_string w t t2 e none 0 0 hs he hd];simp [Conv.bytesToString];rfl
  | some p =>
   cases az:l with
   | nil =>
    have:∀ j (ay:j<([]:List UInt8).length),w.cell? (p.add j)=some (.int .u8 (([]:List UInt8)[j].toNat:Int)):=λ j ay=>nomatch ay;exact aTm w t t2 e p c [] hs he hd this
   | cons b r =>
    rw [← az];obtain ⟨b,o,rfl',hc⟩:=aA0 h (by rw [az];simp);injection rfl' with rfl'
    subst rfl';exact aTm w t t2 e _ c l hs he hd λ j ay=>by
     have:=hc j _ (aQN ay);have e:(⟨b,o,none⟩:Addr).add j=⟨b,o+j,none⟩:=by
      unfold Addr.add;by_cases aF:j=0
      ·subst aF;simp
      ·simp [aF]
     rw [e];exact this
 simp only [execOp,ha.ev hx,aQY,hr,aQR,aQ3]
theorem ax2 {s:ByteArray} (aD:P.underlying t=some .string) (hx:ev E x=some (.string s)) (hs:(s.size:Int)≤9223372036854775807):cN P E ⟨d, .call {callee:= .builtin .len,args:=#[x],argTypes:=#[t]},ty,pos,af,g⟩ w (.int .i64 (s.size:Int)) w :=
 bi (vs:= [.string s]) (by simp only [g_,hx]) λ cs=>by
  have:=run_len_string (P:=P) w t ty s aD;simp only [builtin,aQY,this,aQR,aQ3];rfl
end
end
section
def aBB (p:Int):UInt8:=([46,35,116,111]:List UInt8).getD p.toNat 0
def aA4 (f:aE) (k j:Nat):List UInt8:=(((f.aW.drop (k * f.wide.toNat)).take (k * f.wide.toNat+f.wide.toNat - k * f.wide.toNat)).take j).map aBB
def txt (f:aE) (pre:List (Fin f.high.toNat)):List UInt8:=pre.flatMap λ k=>aA4 f k.1 f.wide.toNat++ [10]
theorem apy (A:Option Addr) (len c:Nat) (i:Int) (w:World) (ar:1≤i):Calls prog 86 #[.slice A len c, .int .i64 i] w (λ e w'=>∃ eZ gm,e= .returned (.func (.func 121) #[] #[.pointer (some ⟨eZ,0,none⟩), .pointer (some ⟨gm,0,none⟩)])∧aQ w' eZ [.slice A len c] 22 (0,0)∧aQ w' gm [.int .i64 (i.toNat:Int)] 3 (0,0)∧w.heap.size≤eZ∧eZ<gm∧Ext w w'):=by
 have e:i=(i.toNat:Int):=by omega
 have:=apx A len c i.toNat w (by omega);rw [← e] at this;rw [← e];exact this
def aID (f:aE):ByteArray:=if f.bn≠0 then r7 [] else r7 (txt f (List.finRange f.high.toNat))
end
section
theorem anq:fh prog bK 22 3 8:=fh.lF (z:= .int .i64 0) (k:=1) underlying22 Cl rfl rfl (by decide) (λ j u h=>HQ j u h)
theorem anp:fh prog aN.rep 44 51 48:=fh.lF (z:=aN.zero) (k:=6) underlying44 aN.info rfl rfl (by decide) aN.iC
def nums (l:List aN):List Int:=l.flatMap λ o=> [o.by_,o.kind,o.aS,o.spot.x,o.spot.y,o.what]
theorem QB:∀ l:List aN,(nums l).length=6 * l.length
 | []=>rfl
 | o::l=>by unfold nums;rw [aSl,aQU,aQQ];have:=QB l;unfold nums at this;rw [this];simp;omega
theorem ay7 {l:List aN} {k:Nat} (h:k<l.length):nums (l.take (k+1))=nums (l.take k)++ [(l.getD k default).by_,(l.getD k default).kind,(l.getD k default).aS,(l.getD k default).spot.x,(l.getD k default).spot.y,(l.getD k default).what]:=by
 unfold nums;rw [CM (d:=default) h,aR8];simp
def hk (l:List aN):ByteArray:=if hi l≠0 then r7 [] else eu.sD (Pack.strOf (Pack.pR (nums l)))
theorem alu {l:List aN} (h:¬ hi l=0):hk l=r7 []:=by unfold hk;rw [aQZ h]
theorem MD {l:List aN} (h:hi l=0):hk l=eu.sD (Pack.strOf (Pack.pR (nums l))):=by unfold hk;rw [aQV (by simpa using h)]
theorem Pack.aji (l:List Int):(Pack.pR l).length≤10+10 * l.length:=by
 unfold Pack.pR;rw [aQU];have:=(Pack.AK l.length).1;have:=Pack.Ws l;omega
theorem aAR {w:World} {A:Option Addr} {c:Nat} {l:List Int} (h:bK.aI 8 w A c l):Rd w 1 A l.length (uV l):=by
 obtain ⟨s1,s2,L6,ajL,ess,L7,E8⟩:=h;rw [Um L7] at E8;exact E8
theorem awE {w:World} {A:Option Addr} {c:Nat} {l:List Int} (h:bK.aI 8 w A c l):r3 l:=λ x hx=>bM.1 (HS h x hx)
theorem aAk (l:List Int) (A:Option Addr) (c:Nat) (w:World) (hn:l.length≤1000) (h:bK.aI 8 w A c l):Calls prog 92 #[.slice A l.length c] w λ e w'=>e= .returned (.tuple #[.string (Pack.strOf (Pack.pR l)), .int .i64 0])∧Ext w w' :=
 Pack.ajh A l.length c l rfl hn (awE h) w (aAR h)
theorem ael {s:List UInt8} {out:List Int} {j:Int} (h:Pack.zo s out j):out.length≤1000:=by
 obtain ⟨_,γ,ab⟩:=h;by_cases e:j=0
 ·exact (γ e).2
 ·rw [(ab e).1];exact aRE _
theorem azE {w:World} {B n c:Nat} {A:Option Addr} {l:List Int} (h:Own w B 3 1 Np (.slice A n c) l.length (uV l)) (az:l.length≤1000) (O':r3 l):n=l.length∧bK.aG 3 8 w B (τ.ae A) A c l:=by
 have hn:n=l.length:=by
  rcases h.2 with ⟨γ,ab⟩ | ⟨g,cap,cur,hv,_⟩
  ·injection γ with _ e _;rw [e,ab]
  ·injection hv
 subst hn;refine ⟨Z,τ.aG.yT (ess:=l.map λ a=> [Value.int .i64 a]) ajB (SZ λ a ha=>bM.2 (O' a ha)) (by omega) ?_⟩;have qi:(l.map λ a=> [Value.int .i64 a]).flatten=l.map (Value.int .i64):=Um (w:=w) (SZ λ a ha=>bM.2 (O' a ha));rw [qi];exact h
theorem atn (s:ByteArray) (hs:s.size≤9223372036854775807) (w:World):Calls prog 85 #[.string s] w (λ e w'=>∃ out k A c,Pack.zo s.data.toList out k∧e= .returned (.tuple #[.slice A out.length c, .int .i64 k])∧bK.aG 3 8 w' w.heap.size (τ.ae A) A c out∧Ext w w'):=by
 refine (Pack.atm s hs w).mono λ e w' he=> ?_;obtain ⟨out,k,A,n,c,γ,ab,aw,aX⟩:=he;obtain ⟨rfl,bF⟩:=azE aw (ael γ) γ.1;exact ⟨out,k,A,c,γ,ab,bF,aX⟩
theorem azr {s:ByteArray} (h:s.size≤140737488351232):(eu.kz s).1.size≤9223372036854775807:=by
 rcases eu.aiV s with ⟨_,ab⟩ | ⟨_,ab⟩
 ·have:=aRS ByteArray.size ab;rw [eu.L_] at this;omega
 ·rw [ab];decide
def fo (l:List Int) (k:Nat):List Int:=(l.drop (k * 6)).take (k * 6+6 - k * 6)
theorem ab7 {l:List Int} {k:Nat} (h:k * 6+6≤l.length):(fo l k).length=6:=by unfold fo;rw [aQP,aQ6];omega
theorem apA {l:List Int} (h:∀ a∈l,eP a) (k i:Nat):eP ((fo l k).getD i 0):=by
 by_cases ar:i<(fo l k).length
 ·exact h _ (aUi (aSj (jj (d:=0) ar)))
 ·rw [aQK,aRP (by omega)];exact bM.2 (by decide)
def xh (n:List Int):aN:=⟨n.getD 0 0,n.getD 1 0,n.getD 2 0,⟨n.getD 3 0,n.getD 4 0⟩,n.getD 5 0⟩
def HH (out:List Int) (q:Nat):List aN:=(List.finRange q).map λ k=>xh (fo out k.1)
def E1 (out:List Int):List aN:=HH out (out.length / 6)
theorem HG {out:List Int} {q:Nat} (h:out.length=q * 6):E1 out=HH out q:=by unfold E1;rw [show out.length / 6=q by omega]
def x9 (s:ByteArray) (m:List aN) (k:Int):Prop :=
 ((eu.kz s).2≠0∧m= []∧k=(eu.kz s).2)∨((eu.kz s).2=0∧∃ out j,Pack.zo (eu.kz s).1.data.toList out j∧((j≠0∧m= []∧k=j)∨(j=0∧out.length % 6≠0∧m= []∧k=4)∨
  (j=0∧out.length % 6=0∧((hi (E1 out)≠0∧m= []∧k=hi (E1 out))∨(hi (E1 out)=0∧m=E1 out∧k=0)))))
theorem azG (A:Option Addr) (c:Nat) (l:List aN) (w:World) (az:aN.rep.aI 48 w A c l):
  Calls prog 79 #[.slice A l.length c] w (λ e w'=>e= .returned (.tuple #[.string (hk l), .int .i64 (hi l)])∧Ext w w'):=by
 have pD:=az.d_;refine cd (n:=49) func79 Z Z Z ?_;refine aj<|va Z<|va Z<|ai<|aB<|aj<|vm Z<|ca TW Z Z ((Xc _ _ l _ (az.keep (Ext.bI w))).mono ?_);rintro e cO ⟨rfl,e7⟩;refine ⟨_,Z, ?_⟩;have:=e7.size;have bk:=κ (Ext.bI w) e7;refine va Z<|ai<|aj<|vm Z<|J (bne Z Z)<|ai<| ?_;refine eH Z (λ ve=> ?_) (λ ve=> ?_)
 ·refine aj<|vm Z<|va Z<|va Z<|ai<|rt<|bN<|bb (.tmp Z (.tmp Z .nil))<| ?_;exact ⟨by rw [alu ve];rfl,bk⟩
 ·obtain ⟨avi,_⟩:=LW (by simpa using ve);refine bs<|aj<|va Z<|ai<|aB<|aj<|vm Z<|J (cu underlying44 Z)<|vm Z<|ai<|bR<| ?_;refine fg (λ cm cl a6=>∃ k:Nat,∃ M6:Option Addr,∃ Tw:Nat,cl= [(2, .string (r7 [])),(3, .int .i64 0),(5, .slice M6 ((nums (l.take k)).length) Tw),(15, .slice A l.length c),(16, .int .i64 (l.length:Int)),(17, .int .i64 (k:Int))]∧cm=l.length - k∧Ext w a6∧bK.aG 3 8 a6 w.heap.size (τ.ae M6) M6 Tw (nums (l.take k))∧(k≤l.length)) _ _ ⟨0,none,0,Z,Z,bk,(τ.aG.nil _),by omega⟩ (.cons Z (.cons Z (.cons Z (.cons Z (.cons Z (.cons (b2 Z (by first | omega | rfl | (simp<;>omega))) .nil)))))) ?_;rintro aMi aGf aDR ⟨k,M6,Tw,rfl,rfl,FF,x2,av⟩;have:=FF.size;have Yn:=λ q I=>(x2.lt q I).2;have afQ:=QB (l.take k);have KY:(l.take k).length=k:=by rw [aQP];omega
  refine aj<|J (blt Z Z)<|ai<|aB<| ?_;refine ef Z (λ j7=> ?_) (λ j7=> ?_)
  ·have Al:=aN.oh az _ (jj (d:=default) (show k<l.length by omega));refine bs<|aB<|bR<|aj<|J (b5 k underlying44 fF Z Z ((az.keep FF).bL (a7 k)) Z (by omega))<|J (ao Z (τ.aI.hE Kp ((az.keep FF).cA (a7 k)) (df (l:=l) (u:=default) (by omega)) jc fF))<|al Z OG Z Z λ uj yb dm Lq fS=> ?_;have:=dm.size;have jB:=κ FF dm;have QL:=fS.lt;refine st (new:= [.int .i64 ((l.getD k default).by_), .int .i64 ((l.getD k default).kind), .int .i64 ((l.getD k default).aS), .int .i64 ((l.getD k default).spot.x), .int .i64 ((l.getD k default).spot.y), .int .i64 ((l.getD k default).what)]) Z Z fS Z fF Z Z Z λ uk rz fS=> ?_;have:=rz.size;have hY:=Ext.mod jB rz bw;refine ai<|rg<|vm Z<|J (au tx Z)<|J (ao Z (fS.one bd Z))<|J (au ph Z)<|J (ao Z (fS.one bd Z))<|J (au BK Z)<|J (ao Z (fS.one bd Z))<|J (au BL Z)<|J (au iv Z)<|J (ao Z (fS.one bd Z))<|J (au BL Z)<|J (au iw Z)<|J (ao Z (fS.one bd Z))<|J (au BM Z)<|J (ao Z (fS.one bd Z))<|cX (e:= 3) (cs:= [.int .i64 ((l.getD k default).by_), .int .i64 ((l.getD k default).kind), .int .i64 ((l.getD k default).aS), .int .i64 ((l.getD k default).spot.x), .int .i64 ((l.getD k default).spot.y), .int .i64 ((l.getD k default).what)]) Z (λ _=>by kernel_rfl) Z λ nr Gg et WC oW=> ?_;have:=et.size;have fu:=κ hY et;have LZ:=oW.lt;have x2:=x2.later dm;have x2:=x2.mod rz (b0 Yn);have x2:=x2.later et;refine ap anq τ.dC x2 (aQ.Kk (R:=bK) (by_:=8) (k:= [(l.getD k default).by_,(l.getD k default).kind,(l.getD k default).aS,(l.getD k default).spot.x,(l.getD k default).spot.y,(l.getD k default).what]) oW [[.int .i64 ((l.getD k default).by_)], [.int .i64 ((l.getD k default).kind)], [.int .i64 ((l.getD k default).aS)], [.int .i64 ((l.getD k default).spot.x)], [.int .i64 ((l.getD k default).spot.y)], [.int .i64 ((l.getD k default).what)]] Z (⟨⟨Z,(Al.1)⟩,⟨⟨Z,(Al.2.1)⟩,⟨⟨Z,(Al.2.2.1)⟩,⟨⟨Z,(Al.2.2.2.1)⟩,⟨⟨Z,(Al.2.2.2.2.1)⟩,⟨⟨Z,(Al.2.2.2.2.2)⟩,trivial⟩⟩⟩⟩⟩⟩) (by simp) (by simp)) Z Z (by simp only [aQQ,aQX];omega) (by simp only [aQQ,aQX];omega) fu.size Z λ sI al8 ao2 gC NG aIT aMO=> ?_;have:=gC.size;have hN:=Ext.mod fu gC (λ q I=>(x2.lt q I).1);have CS:=λ q I=>(NG.lt q I).2;have:=gC.size;refine va Z<|nl<|bX<|aV<|rg<|J (bad Z Z (bG (by omega)))<|vm Z<|nl<| ?_;have a_:nums (l.take (k+1))=nums (l.take k)++ [(l.getD k default).by_,(l.getD k default).kind,(l.getD k default).aS,(l.getD k default).spot.x,(l.getD k default).spot.y,(l.getD k default).what]:=ay7 (by omega);exact c' _ _ ⟨k+1,al8,ao2,Z,Z,hN,(by rw [a_];exact NG),by omega⟩ (by omega) (.cons Z (.cons Z (.cons (by rw [a_];rfl) (.cons Z (.cons Z (.cons (b2 Z (by first | omega | rfl | (simp<;>omega))) .nil))))))
  ·refine dN<|dL<|ed<|dK<|aV<|aj<|vm Z<|ca ado Z Z ((aAk (nums (l.take k)) _ _ _ (by omega) x2.has).mono ?_);rintro e vH ⟨rfl,eT⟩;refine ⟨_,Z, ?_⟩;have:=eT.size;have lQ:=κ FF eT;refine vm Z<|J (ex Z Z)<|J (ex Z Z)<|va Z<|va Z<|ai<|aB<|aj<|vm Z<|J (bne Z Z)<|ai<|hC Z<|bs<|aj<|vm Z<|ca arD Z Z ((eu.XW _ (by rw [Pack.HZ];have:=Pack.aji (nums (l.take k));omega) _).mono ?_);rintro e Ms ⟨rfl,za⟩;refine ⟨_,Z, ?_⟩;have:=za.size;have xI:=κ lQ za;refine va Z<|va Z<|ai<|rt<|bb (.tmp Z (.tmp Z .nil))<| ?_;have lu:k=l.length:=by omega
   subst lu;exact ⟨by rw [MD (by simpa using ve),show hi l=0 by simpa using ve,aRC];rfl,xI⟩
theorem azz (s:ByteArray) (w:World) (hs:s.size≤140737488351232):
  Calls prog 55 #[.string s] w (λ e w'=>∃ m k A c,x9 s m k∧e= .returned (.tuple #[.slice A m.length c, .int .i64 k])∧aN.rep.aG 51 48 w' w.heap.size (τ.ae A) A c m∧Ext w w'):=by
 refine Rd.cd (m:=5) (n:=61) func55 Z Z Z ?_;refine Rd.aB<|Rd.rg<|va Z<|va Z<|nl<|Rd.aV<|Rd.aB<|Rd.rg<|vm Z<|ca arE Z Z ((eu.azp s (by omega) _).mono ?_);rintro e cO ⟨rfl,e7⟩;refine ⟨_,Z, ?_⟩;have:=e7.size;have bk:=κ (Ext.bI w) e7;refine vm Z<|J (ex Z Z)<|J (ex Z Z)<|va Z<|va Z<|nl<|Rd.aV<|Rd.aB<|Rd.aB<|Rd.rg<|vm Z<|J (bne Z Z)<|nl<|Rd.aV<| ?_;refine Rd.eH Z (λ ve=> ?_) (λ ve=> ?_)
 ·refine Rd.aB<|Rd.rg<|vm Z<|va Z<|va Z<|nl<|Rd.aV<|Rd.rt<|Rd.bN<|Rd.bb (.tmp Z (.tmp Z .nil))<| ?_;exact ⟨[],_,none,0, .inl ⟨by simpa using ve,rfl,rfl⟩,Z,τ.aG.nil _,bk⟩
 ·refine Rd.e6<|Rd.aV<|Rd.aB<|Rd.rg<|vm Z<|ca arF Z Z ((atn ((eu.kz s).1) (azr (by omega)) _).mono ?_);rintro e eA ⟨out,j,M4,abQ,J3,rfl,de,cF⟩;refine ⟨_,Z, ?_⟩;have:=cF.size;have bO:=κ bk cF;have Ri:=λ q I=>(de.lt q I).2;have WS:=λ q I=>(de.lt q I).1;have auX:=ael J3;refine vm Z<|J (ex Z Z)<|J (ex Z Z)<|va Z<|va Z<|nl<|Rd.aV<|Rd.aB<|Rd.aB<|Rd.rg<|vm Z<|J (bne Z Z)<|nl<|Rd.aV<| ?_;refine Rd.eH Z (λ ks=> ?_) (λ ks=> ?_)
  ·refine Rd.aB<|Rd.rg<|vm Z<|va Z<|va Z<|nl<|Rd.aV<|Rd.rt<|Rd.bN<|Rd.bb (.tmp Z (.tmp Z .nil))<| ?_;exact ⟨[],_,none,0, .inr ⟨by simpa using ve,out,j,J3, .inl ⟨by simpa using ks,rfl,rfl⟩⟩,Z,τ.aG.nil _,bO⟩
  ·have aJh:out.length≤1000:=auX;refine Rd.e6<|Rd.aV<|Rd.aB<|Rd.aB<|Rd.rg<|vm Z<|J (cu underlying22 Z)<|J (abF Z Z (by omega) (by omega))<|J (bne Z Z)<|nl<|Rd.aV<| ?_;refine Rd.eH Z (λ qf=> ?_) (λ qf=> ?_)
   ·refine Rd.aB<|Rd.rg<|va Z<|va Z<|nl<|Rd.aV<|Rd.rt<|Rd.bN<|Rd.bb (.tmp Z (.tmp Z .nil))<| ?_;exact ⟨[],_,none,0, .inr ⟨by simpa using ve,out,j,J3, .inr (.inl ⟨by simpa using ks,by omega,rfl,rfl⟩)⟩,Z,τ.aG.nil _,bO⟩
   ·obtain ⟨q,KP⟩:∃ q,out.length=q * 6:=⟨out.length / 6,by omega⟩;refine Rd.e6<|Rd.aV<|Rd.aB<|Rd.rg<|al Z arG Z Z λ y8 NW pX axz M9=> ?_;have:=pX.size;have iB:=κ bO pX;have aAv:=M9.lt;refine nl<|Rd.aV<|Rd.aB<|Rd.aB<|Rd.rg<|vm Z<|ca arH Z Z ((apy _ _ _ 6 _ (by omega)).mono ?_);rintro e y9 ⟨eZ,gm,rfl,ZY,ZZ,js,EF,hl⟩;refine ⟨_,Z, ?_⟩;have:=hl.size;have mI:=κ iB hl;have mC:=ZY.lt;have vC:=ZZ.lt;refine nl<|Rd.aV<|Rd.bR<| ?_;have M9:=M9.later hl;have de:=de.later (κ pX hl);refine Rd.bI (enc:=(λ k:Fin q=> .slice (e1 M4 (k.1 * 6+6) (k.1 * 6) 1) 6 6)) Z arI (apz q 6 out.length abQ eZ gm M4 _ (by omega) KP de.has.1 de.has.2.1 _ ZY ZZ) (by omega) (by omega) (Ext.bI _) (by decide) Z Z (λ pre W=>∃ jF:Option Addr,∃ co:Nat,aQ W NW [.slice jF (((pre.map λ k=>xh (fo out k.1))).length) co] 44 (0,0)∧aN.rep.aG 51 48 W y9.heap.size (τ.ae jF) jF co ((pre.map λ k=>xh (fo out k.1)))∧bK.aG 3 8 W cO.heap.size (τ.ae M4) M4 abQ (out)∧Mod [NW] y9 W) (by rintro aOu aGL aGM aGF ⟨jF,co,mK,e_,de,aEz⟩ Qm GR;exact ⟨jF,co,mK.mod Qm (λ I=>(GR _ I).2 _ _ _ mK),e_.mod Qm (λ q I hs=>by obtain ⟨_,_,_,hc⟩:=e_.Oj q I;exact (GR q hs).2 _ _ _ hc),de.mod Qm (λ q I hs=>by obtain ⟨_,_,_,hc⟩:=de.Oj q I;exact (GR q hs).2 _ _ _ hc),aEz.md Qm (λ q I=> .inr (GR q I).1)⟩) ⟨none,0,M9,τ.aG.nil _,de,Mod.bI _ _⟩ ?_ ?_
    ·intro aKV pre dX ak0 U2 avq;obtain ⟨jF,co,mK,e_,de,YS⟩:=U2;have yB:∀ q∈ [NW],w.heap.size≤q:=λ q I=>by rw [aQJ.1 I];omega
     have wP:xY y9.heap.size ak0 ak0:=xY.bI _ _;have:=YS.size;have aAw:=mK.lt;have Yl:=λ q I=>(e_.lt q I).2;have Lv:=λ q I=>(e_.lt q I).1;have oO:=λ q I=>(de.lt q I).2;have na:=λ q I=>(de.lt q I).1;have hx:=dX.2;have K0:dX.1 * 6+6≤q * 6:=by omega
     have aJZ:pre.length<q:=avq;have rf:=ab7 (l:=out) (k:=dX.1) (by omega);have G':=λ i=>apA (HS de.has) dX.1 i;have tK:((pre.map λ k=>xh (fo out k.1))).length=pre.length:=aRz _;refine Rd.bR<| ?_;refine Rd.rd [(0,0),(3,0),(6,0),(9,0),(12,0),(15,0),(19,0),(21,2),(22,3),(23,3)] [0,1,2,3,4,5,6,7,8,9,10,11,12,13,14,15,16,17,18,19,20,21,22,23] (by kernel_rfl) (by kernel_rfl) ?_;refine bE Z (λ _ x=>ao Z ((mK.later x).one pj Z))<|aq Z (λ _=>aH Z)<|aq Z (λ _=>b5 0 underlying22 dr Z Z ((de.has.chunk (dX.1 * 6) (dX.1 * 6+6) (by omega) (by omega)).bL (a7 0 (by first | (rw [aQP,aQ6];omega) | omega))) Z (by omega))<|bE Z (λ _ x=>ao Z (τ.aI.fB gl (((de.later x).has.chunk (dX.1 * 6) (dX.1 * 6+6) (by omega) (by omega)).cA (a7 0 (by first | (rw [aQP,aQ6];omega) | omega))) (df (l:=fo out dX.1) (u:=0) (by first | (rw [aQP,aQ6];omega) | omega)) Z bd))<|aq Z (λ _=>aH Z)<|aq Z (λ _=>b5 1 underlying22 dr Z Z ((de.has.chunk (dX.1 * 6) (dX.1 * 6+6) (by omega) (by omega)).bL (a7 1 (by first | (rw [aQP,aQ6];omega) | omega))) Z (by omega))<|bE Z (λ _ x=>ao Z (τ.aI.fB gl (((de.later x).has.chunk (dX.1 * 6) (dX.1 * 6+6) (by omega) (by omega)).cA (a7 1 (by first | (rw [aQP,aQ6];omega) | omega))) (df (l:=fo out dX.1) (u:=0) (by first | (rw [aQP,aQ6];omega) | omega)) Z bd))<|aq Z (λ _=>aH Z)<|aq Z (λ _=>b5 2 underlying22 dr Z Z ((de.has.chunk (dX.1 * 6) (dX.1 * 6+6) (by omega) (by omega)).bL (a7 2 (by first | (rw [aQP,aQ6];omega) | omega))) Z (by omega))<|bE Z (λ _ x=>ao Z (τ.aI.fB gl (((de.later x).has.chunk (dX.1 * 6) (dX.1 * 6+6) (by omega) (by omega)).cA (a7 2 (by first | (rw [aQP,aQ6];omega) | omega))) (df (l:=fo out dX.1) (u:=0) (by first | (rw [aQP,aQ6];omega) | omega)) Z bd))<|aq Z (λ _=>aH Z)<|aq Z (λ _=>b5 3 underlying22 dr Z Z ((de.has.chunk (dX.1 * 6) (dX.1 * 6+6) (by omega) (by omega)).bL (a7 3 (by first | (rw [aQP,aQ6];omega) | omega))) Z (by omega))<|bE Z (λ _ x=>ao Z (τ.aI.fB gl (((de.later x).has.chunk (dX.1 * 6) (dX.1 * 6+6) (by omega) (by omega)).cA (a7 3 (by first | (rw [aQP,aQ6];omega) | omega))) (df (l:=fo out dX.1) (u:=0) (by first | (rw [aQP,aQ6];omega) | omega)) Z bd))<|aq Z (λ _=>aH Z)<|aq Z (λ _=>b5 4 underlying22 dr Z Z ((de.has.chunk (dX.1 * 6) (dX.1 * 6+6) (by omega) (by omega)).bL (a7 4 (by first | (rw [aQP,aQ6];omega) | omega))) Z (by omega))<|bE Z (λ _ x=>ao Z (τ.aI.fB gl (((de.later x).has.chunk (dX.1 * 6) (dX.1 * 6+6) (by omega) (by omega)).cA (a7 4 (by first | (rw [aQP,aQ6];omega) | omega))) (df (l:=fo out dX.1) (u:=0) (by first | (rw [aQP,aQ6];omega) | omega)) Z bd))<|q7 (v:= .agg #[.int .i64 ((fo out dX.1).getD 3 0), .int .i64 ((fo out dX.1).getD 4 0)]) Z Z (λ _=>cG Z (by kernel_rfl)) Z<|aq Z (λ _=>aH Z)<|aq Z (λ _=>b5 5 underlying22 dr Z Z ((de.has.chunk (dX.1 * 6) (dX.1 * 6+6) (by omega) (by omega)).bL (a7 5 (by first | (rw [aQP,aQ6];omega) | omega))) Z (by omega))<|bE Z (λ _ x=>ao Z (τ.aI.fB gl (((de.later x).has.chunk (dX.1 * 6) (dX.1 * 6+6) (by omega) (by omega)).cA (a7 5 (by first | (rw [aQP,aQ6];omega) | omega))) (df (l:=fo out dX.1) (u:=0) (by first | (rw [aQP,aQ6];omega) | omega)) Z bd))<|q7 (v:= .agg #[.int .i64 ((fo out dX.1).getD 0 0), .int .i64 ((fo out dX.1).getD 1 0), .int .i64 ((fo out dX.1).getD 2 0), .int .i64 ((fo out dX.1).getD 3 0), .int .i64 ((fo out dX.1).getD 4 0), .int .i64 ((fo out dX.1).getD 5 0)]) Z Z (λ _=>cG Z (by kernel_rfl)) Z<|fG Z Z Z λ sI eC Q hK=>cX (e:= 51) (cs:= [.int .i64 ((fo out dX.1).getD 0 0), .int .i64 ((fo out dX.1).getD 1 0), .int .i64 ((fo out dX.1).getD 2 0), .int .i64 ((fo out dX.1).getD 3 0), .int .i64 ((fo out dX.1).getD 4 0), .int .i64 ((fo out dX.1).getD 5 0)]) Z (λ _=>by kernel_rfl) Z λ um aog hJ axD IB=>hK _ _ ⟨κ eC hJ, ?_⟩;have:=eC.size;have hN:=YS.trans (Mod.bD eC);have:=hJ.size;have iT:=hN.trans (Mod.bD hJ);have Xw:=IB.lt;have e_:=e_.later (κ eC hJ);have azL:=e_;refine eo Z Z Z λ vH eT Q hK=>ap anp τ.dC (e_.later eT) ((aQ.gJ (R:=aN.rep) (by_:=48) (q:=(⟨(fo out dX.1).getD 0 0,(fo out dX.1).getD 1 0,(fo out dX.1).getD 2 0,⟨(fo out dX.1).getD 3 0,(fo out dX.1).getD 4 0⟩,(fo out dX.1).getD 5 0⟩:aN)) IB ⟨Z,⟨G' 0,G' 1,G' 2,G' 3,G' 4,G' 5⟩⟩ (by decide)).keep eT) Z Z (by simp only [aQQ,aQX];omega) (by simp only [aQQ,aQX];omega) (by have:=eT.size;omega) Z λ Ms Zm abV jv s7 ath aMR=>hK _ _ ?_;have:=eT.size;have lQ:=iT.trans (Mod.bD eT);have:=jv.size;have xI:=lQ.md jv (λ q I=> .inr ((λ q I=>aRj (by omega) ((e_.later eT).lt q I).1) q I));have CU:=λ q I=>(s7.lt q I).2;have:=jv.size;have mK:=mK.later (κ eC (κ hJ eT));have mU:∀ q∈τ.ae jF,q=NW→False:=λ q I Φ=>by (have:=Lv q I;omega)
     have mK:=mK.mod jv (λ I=>mU _ I rfl);have azM:=mK;refine eo Z Z Z λ Mu jy Q hK=>st (new:= [.slice Zm (((pre.map λ k=>xh (fo out k.1))++ [(⟨(fo out dX.1).getD 0 0,(fo out dX.1).getD 1 0,(fo out dX.1).getD 2 0,⟨(fo out dX.1).getD 3 0,(fo out dX.1).getD 4 0⟩,(fo out dX.1).getD 5 0⟩:aN)]).length) abV]) Z Z (mK.later jy) Z BN Z Z Z λ pW kT mK=>hK _ _ ?_;have:=jy.size;have xJ:=xI.trans (Mod.bD jy);have:=kT.size;have hy:=xJ.md kT (λ q I=> .inl I);refine fn λ Ia nv=> ?_;have:=nv.size;have rS:=hy.trans (Mod.bD nv);refine Rd.bX<| ?_;have wP:=wP.later (κ eC (κ hJ eT));have wP:=wP.mod jv (λ q I=>(azL.later eT).Oj q I);have wP:=wP.later jy;have wP:=wP.mod kT (λ q I=>by rw [aQJ.1 I];exact ⟨_,_,_,(azM.later jy)⟩);have wP:=wP.later nv;have mK:=mK.later nv;have s7:=s7.later jy;have s7:=s7.mod kT (λ q I h=>by have Φ:=aQJ.1 h;exfalso;(exact aQ2 (ath q I) (λ Lm=>by (exact mU q Lm Φ)) (λ Lm=>by omega)));have s7:=s7.later nv;have de:=de.later (κ eC (κ hJ eT));have de:=de.mod jv (λ q I h=>by exfalso;(have:=Lv q h;(have:=oO q I;have:=Ri q I;omega)));have de:=de.later jy;have de:=de.mod kT (λ q I h=>by have Φ:=aQJ.1 h;exfalso;(have:=oO q I;have:=Ri q I;omega));have de:=de.later nv;exact λ _ _=>⟨wP,Mod.axg YS rS ⟨by omega,by omega⟩ aR aR,⟨Zm,abV,(by rw [aRc];exact mK),(by rw [aRc];exact s7),de,rS⟩⟩
    ·intro D aEq aPG aI1 GR U2 yt;obtain ⟨jF,co,mK,e_,de,alG⟩:=U2;have U9:aEq=List.finRange q:=GR;subst U9;have:=alG.size;have aEx:=Ext.mod mI alG (λ q I=>by rw [aQJ.1 I];omega);refine gz.bX<|gz.aV<|gz.aB<|gz.aB<|gz.rg<|gz.h6 (ao Z (mK.one pj Z)) Z<|gz.ca TW Z Z ((Xc _ _ (HH out q) _ e_.has).mono ?_);rintro e aQC ⟨rfl,n5⟩;refine ⟨_,Z, ?_⟩;have:=n5.size;have alP:=κ aEx n5;refine gz.h6 (eY Z) Z<|gz.nl<|gz.aV<|gz.aB<|gz.rg<|gz.h6 (aH Z) Z<|gz.h6 (bne Z Z) Z<|gz.nl<|gz.aV<| ?_;refine gz.eH Z (λ Kh=> ?_) (λ Kh=> ?_)
     ·refine gz.aB<|gz.rg<|gz.h6 (aH Z) Z<|gz.h6 (eY Z) Z<|gz.h6 (eY Z) Z<|gz.nl<|gz.aV<|gz.rt<|gz.bN<| ?_;have yt:=yt.later n5;refine gz.bb yt (.tmp Z (.tmp Z .nil))<| ?_;exact ⟨[],_,none,0, .inr ⟨by simpa using ve,out,j,J3, .inr (.inr ⟨by simpa using ks,by omega, .inl ⟨by rw [HG KP];simpa using Kh,rfl,by rw [HG KP]⟩⟩)⟩,Z,τ.aG.nil _,Ext.mod alP yt.un (λ q I=>by rw [aQJ.1 I];omega)⟩
     ·refine gz.e6<|gz.aV<|gz.aB<|gz.rg<| ?_;have mK:=mK.later n5;refine gz.h6 (ao Z (mK.one pj Z)) Z<|gz.h6 (eY Z) Z<|gz.h6 (eY Z) Z<|gz.nl<|gz.aV<|gz.rt<| ?_;have yt:=yt.later n5;refine gz.bb yt (.tmp Z (.tmp Z .nil))<| ?_;have e_:=e_.later n5;exact ⟨_,_,jF,co, .inr ⟨by simpa using ve,out,j,J3, .inr (.inr ⟨by simpa using ks,by omega, .inr ⟨by rw [HG KP];simpa using Kh,(HG KP).symm,rfl⟩⟩)⟩,rfl,(e_.down (by omega)).mod yt.un (λ la γ ab=>by have aw:=aQJ.1 ab;subst aw;obtain ⟨_,_,_,hc⟩:=e_.Oj _ γ;rw [show _=_ from yt] at hc;exact nomatch hc),Ext.mod alP yt.un (λ q I=>by rw [aQJ.1 I];omega)⟩
end
section
theorem ab8 {α:Type} (n:Nat):∀ (q:Nat) (l:List α),l.length=q * n→((List.finRange q).flatMap λ k=>(l.drop (k.1 * n)).take n)=l
 | 0,l,h=>by
  have:l= []:=aRd (by omega);subst this;rfl
 | q+1,l,h=>by
  rw [aSq] at h;have bt:=ab8 n q (l.drop n) (by rw [aQ6];omega);rw [List.finRange_succ,aSl,List.flatMap_map];have e:(λ k:Fin q=>(l.drop (k.succ.1 * n)).take n)=λ k:Fin q=>((l.drop n).drop (k.1 * n)).take n:=by
   funext k
   rw [aU8];congr 2;show (k.1+1) * n=_;rw [aSq];omega
  show (l.drop (0 * n)).take n++((List.finRange q).flatMap λ k:Fin q=>(l.drop (k.succ.1 * n)).take n)=l;rw [e,bt,aVs,aTj,aSS]
theorem QA (o:aN) (l:List aN):nums (o::l)=o.by_::o.kind::o.aS::o.spot.x::o.spot.y::o.what::nums l:=rfl
theorem aiF:∀ {a b:List aN},nums a=nums b→a=b
 | [], [],_=>rfl
 | [],o::b,h=>by rw [QA] at h;exact nomatch h
 | o::a, [],h=>by rw [QA] at h;exact nomatch h
 | o::a,p::b,h=>by
  rw [QA,QA] at h;injection h with γ h
  injection h with ab h
  injection h with aw h
  injection h with aX h
  injection h with bF h
  injection h with cb h
  have e:o=p:=by
   obtain ⟨cj,a2,a3,⟨a4,a5⟩,Gc⟩:=o;obtain ⟨c1,c2,c3,⟨c4,c5⟩,dA⟩:=p;simp only at γ ab aw aX bF cb;subst γ ab aw aX bF cb;rfl
  rw [e,aiF h]
theorem ax0 {l:List Int} (h:l.length=6): [l.getD 0 0,l.getD 1 0,l.getD 2 0,l.getD 3 0,l.getD 4 0,l.getD 5 0]=l:=by
 match l,h with
 | [a,b,c,d,e,f],_=>rfl
theorem aiG {out:List Int} {q:Nat} (h:out.length=q * 6):nums (HH out q)=out:=by
 have e:nums (HH out q)=(List.finRange q).flatMap λ k=>(out.drop (k.1 * 6)).take 6:=by
  unfold nums HH;rw [List.flatMap_map];have bh:(λ k:Fin q=> [(xh (fo out k.1)).by_,(xh (fo out k.1)).kind,(xh (fo out k.1)).aS,(xh (fo out k.1)).spot.x,(xh (fo out k.1)).spot.y,(xh (fo out k.1)).what])=λ k:Fin q=>(out.drop (k.1 * 6)).take 6:=by
   funext k
   have av:=k.2;have cb:=ab7 (l:=out) (k:=k.1) (by omega);have d':fo out k.1=(out.drop (k.1 * 6)).take 6:=by unfold fo;congr 1;omega
   rw [← d'];exact ax0 cb
  exact aRS (λ f=>(List.finRange q).flatMap f) bh
 rw [e];exact ab8 6 q out h
theorem ay6 {l:List aN} (h:∀ o∈l,o.ok):r3 (nums l):=by
 intro x hx;obtain ⟨o,b1,hx⟩:=aUT.1 hx;obtain ⟨EY,oK,lG,nh,nS,pO⟩:=h o b1;simp only [aQ7,aSb,aSV] at hx;rcases hx with rfl | rfl | rfl | rfl | rfl | rfl
 ·exact bM.1 EY
 ·exact bM.1 oK
 ·exact bM.1 lG
 ·exact bM.1 nh
 ·exact bM.1 nS
 ·exact bM.1 pO
theorem Xn {l m:List aN} {k:Int} (h:hi l=0) (ea:∀ o∈l,o.ok) (hR:x9 (hk l) m k):k=0∧m=l:=by
 have hw:=MD h;have hn:=QB l;have wO:=(LW h).1;have b1:eu.kz (hk l)=(Pack.strOf (Pack.pR (nums l)),0):=by rw [hw];exact eu.azq _
 have I:(nums l).length=l.length * 6:=by omega
 have hf:E1 (nums l)=l:=by
  rw [HG I];exact aiF (aiG I)
 rcases hR with ⟨γ,_⟩ | ⟨_,out,j,bC,ab⟩
 ·rw [b1] at γ;exact absurd Z γ
 ·rw [b1] at bC;obtain ⟨ay,rfl⟩:=Pack.atx (ay6 ea) (by omega) bC;rcases ab with ⟨aw,_⟩ | ⟨_,aw,_⟩ | ⟨_,_,⟨aw,_⟩ | ⟨aw,aX,bF⟩⟩
  ·exact absurd ay aw
  ·omega
  ·rw [hf] at aw;exact absurd h aw
  ·exact ⟨bF,by rw [aX,hf]⟩
theorem aAS {s:ByteArray} {m:List aN} {k:Int} (hR:x9 s m k):(k=0→hi m=0∧hk m=s)∧(k≠0→m= []):=by
 rcases hR with ⟨γ,ab,aw⟩ | ⟨γ,out,j,bC,ab⟩
 ·exact ⟨λ h=>absurd (aw ▸ h) γ,λ _=>ab⟩
 ·rcases ab with ⟨aw,aX,bF⟩ | ⟨_,aw,aX,bF⟩ | ⟨ay,cb,⟨aw,aX,bF⟩ | ⟨aw,aX,bF⟩⟩
  ·exact ⟨λ h=>absurd (bF ▸ h) aw,λ _=>aX⟩
  ·exact ⟨λ h=>by omega,λ _=>aX⟩
  ·exact ⟨λ h=>absurd (bF ▸ h) aw,λ _=>aX⟩
  ·refine ⟨λ _=> ?_,λ h=>absurd bF h⟩;subst aX;refine ⟨aw, ?_⟩;have I:out.length=(out.length / 6) * 6:=by omega
   rw [MD aw,HG I,aiG I,← (bC.2.1 ay).1];rcases eu.aiV s with ⟨_,d'⟩ | ⟨d',_⟩
   ·exact d'
   ·omega
theorem alv (l:List aN):(hk l).size≤140737488351232:=by
 by_cases h:hi l=0
 ·have γ:=(LW h).1;have ab:=QB l;have aw:=Pack.aji (nums l);rw [MD h,eu.L_,Pack.HZ];omega
 ·rw [alu h];decide
def aNf:List aN:= [⟨1,2,7,⟨2, -1⟩,0⟩]
end
section
theorem Pv {w:World} {cs:List Value} {a:ByteArray} (h:jW.has w cs a):cs= [.string a]:=aSO (show cs= [.string a]∧a.size≤140737488351232 from h)
theorem aAQ:∀ (j:Nat) u,(Value.string .empty).cells[j]? =some u→jW.raw j u:=by
 intro j u hu;have hu:(#[(Value.string .empty:Value)]:Array Value)[j]? =some u:=hu
 match j,hu with
 | 0,hu=>exact ⟨_,(aQL hu).symm,by decide⟩
 | j+1,hu=>cases hu
theorem awX:(prog.info? 9).map (λ i=>(i.zero,i.size,i.bytes))=some (some (.string .empty),1,16):=by kernel_rfl
end
end Go.Proofs.YtlikikpgmmkjbaaGreat
namespace Go.Proofs.YtlikikpgmmkjbaaGreat.Tree
open Tryz
open Go.RowKit Go.Proofs.YtlikikpgmmkjbaaGreat Go.Proofs.YtlikikpgmmkjbaaGreat.eV Go.Proofs.YtlikikpgmmkjbaaGreat.Mark
def GK (k:Nat):Nat→List (List UInt8)→List cT
 | 0,_=> []
 | e+1,l=>if k.testBit e then QR (l.take (2 ^ e))::GK k e (l.drop (2 ^ e)) else GK k e l
def Ok (l:List cT):List Value:=l.map fun x=>Value.int .u64 (U x)
def GW (_:Nat) (u:Value):Prop:=∃ n:Int,u= .int .u64 n
def aGl (k:Nat) (l:List ByteArray) (w:World) (e:Ending) (w':World):Prop :=
 ∃ A c,e= .returned (.tuple #[.slice A (GK k 9 (lists l)).length c, .int .i64 0])∧Own w' w.heap.size 41 1 GW (.slice A (GK k 9 (lists l)).length c) (GK k 9 (lists l)).length (Ok (GK k 9 (lists l)))∧Below w.heap.size w w'
end Go.Proofs.YtlikikpgmmkjbaaGreat.Tree
namespace Go.Proofs.YtlikikpgmmkjbaaGreat
open Tryz
end Go.Proofs.YtlikikpgmmkjbaaGreat
namespace Go.Proofs.YtlikikpgmmkjbaaGreat.Tree
open Tryz
open Go.RowKit Go.Proofs.YtlikikpgmmkjbaaGreat Go.Proofs.YtlikikpgmmkjbaaGreat.eV Go.Proofs.YtlikikpgmmkjbaaGreat.Mark
def aw9:List cT→cT
 | []=>0#64
 | x::r=>match r with
  | []=>x
  | y::t=>HL x (aw9 (y::t))
def aGm (w:World) (e:Ending) (w':World):Prop:=∃ (A:Option Addr) (n c:Nat) (k:Int),e= .returned (.tuple #[.slice A n c, .int .i64 k])∧Below w.heap.size w w'
def GS (_:Nat) (u:Value):Prop:=∃ s:ByteArray,u= .string s
def aFz (w:World) (n:Nat) (l:List ByteArray) (e:Ending) (w':World):Prop :=
 ∃ A c,e= .returned (.slice A n c)∧Own w' w.heap.size 9 1 GS (.slice A n c) n (aph l)∧Below w.heap.size w w'
end Go.Proofs.YtlikikpgmmkjbaaGreat.Tree
namespace Go.Proofs.YtlikikpgmmkjbaaGreat
open Tryz
end Go.Proofs.YtlikikpgmmkjbaaGreat
namespace Go.Proofs.YtlikikpgmmkjbaaGreat.Tree
open Tryz
open Go.RowKit Go.Proofs.YtlikikpgmmkjbaaGreat Go.Proofs.YtlikikpgmmkjbaaGreat.eV Go.Proofs.YtlikikpgmmkjbaaGreat.Mark
def Gi:Nat→cT→Nat→Nat→List cT→cT×Bool
 | 0,m,_,_,t=>(m,t.isEmpty)
 | f+1,m,at_,n,t =>
  if n=1 then (m,t.isEmpty) else
  match t.getLast? with
  | none=>(0#64,false)
  | some x=>if at_<lI n then (HL (Gi f m at_ (lI n) t.dropLast).1 x,(Gi f m at_ (lI n) t.dropLast).2)
   else (HL x (Gi f m (at_ - lI n) (n - lI n) t.dropLast).1,(Gi f m (at_ - lI n) (n - lI n) t.dropLast).2)
def aFy (w:World) (r:cT×Bool) (e:Ending) (w':World):Prop:=e= .returned (.tuple #[.int .u64 (U r.1), .bool r.2])∧w=w'
def afW (root:cT) (s:List UInt8) (at_ n:Nat) (t:List cT):Bool:=(Gi n (Cq s) at_ n t).2 && decide ((Gi n (Cq s) at_ n t).1=root)
end Go.Proofs.YtlikikpgmmkjbaaGreat.Tree
namespace Go.Proofs.YtlikikpgmmkjbaaGreat
open Tryz
end Go.Proofs.YtlikikpgmmkjbaaGreat
namespace Go.Proofs.YtlikikpgmmkjbaaGreat.Tree
open Tryz
open Go.RowKit Go.Proofs.YtlikikpgmmkjbaaGreat Go.Proofs.YtlikikpgmmkjbaaGreat.eV Go.Proofs.YtlikikpgmmkjbaaGreat.Mark

def Q8:Nat→List (List UInt8)→Nat→List cT
 | 0,_,_=> []
 | f+1,l,at_=>if l.length=1 then [] else
  if at_<lI l.length then Q8 f (l.take (lI l.length)) at_++ [QR (l.drop (lI l.length))]
  else Q8 f (l.drop (lI l.length)) (at_ - lI l.length)++ [QR (l.take (lI l.length))]
def aGJ (w:World) (t:List cT) (e:Ending) (w':World):Prop:=∃ A c,e= .returned (.slice A t.length c)∧Own w' w.heap.size 41 1 GW (.slice A t.length c) t.length (Ok t)∧Below w.heap.size w w'
end Go.Proofs.YtlikikpgmmkjbaaGreat.Tree
namespace Go.Proofs.YtlikikpgmmkjbaaGreat
open Tryz
end Go.Proofs.YtlikikpgmmkjbaaGreat
namespace Go.Proofs.YtlikikpgmmkjbaaGreat.Tree
open Tryz
open Go.Proofs.YtlikikpgmmkjbaaGreat.eV Go.Proofs.YtlikikpgmmkjbaaGreat.Mark

def acU:Nat→Nat→Nat→Nat
 | 0,_,_=>0
 | f+1,at_,n=>if n=1 then 0 else if at_<lI n then acU f at_ (lI n)+1 else acU f (at_ - lI n) (n - lI n)+1
def aj2:Nat→Nat→Nat→List Bool
 | 0,_,_=> []
 | f+1,at_,n=>if n=1 then [] else if at_<lI n then aj2 f at_ (lI n)++ [false] else aj2 f (at_ - lI n) (n - lI n)++ [true]
def aB6 (m:cT) (x:Bool×cT):cT:=if x.1 then HL x.2 m else HL m x.2
def along (sd:List Bool) (t:List cT) (m:cT) (k:Nat):cT:=((sd.zip t).take k).foldl aB6 m
end Go.Proofs.YtlikikpgmmkjbaaGreat.Tree
namespace Go.Proofs.YtlikikpgmmkjbaaGreat
open Tryz
end Go.Proofs.YtlikikpgmmkjbaaGreat
namespace Go.Proofs.YtlikikpgmmkjbaaGreat.Tree
open Tryz
open Go.RowKit Go.Proofs.YtlikikpgmmkjbaaGreat Go.Proofs.YtlikikpgmmkjbaaGreat.eV Go.Proofs.YtlikikpgmmkjbaaGreat.Mark

def aGK (w:World) (t:List cT) (e:Ending) (w':World):Prop:=∃ A c,e= .returned (.tuple #[.slice A t.length c, .int .i64 0])∧Own w' w.heap.size 41 1 GW (.slice A t.length c) t.length (Ok t)∧Below w.heap.size w w'
def aFA (w:World) (n:Nat) (l:List cT) (e:Ending) (w':World):Prop :=
 ∃ A c,e= .returned (.slice A n c)∧Own w' w.heap.size 41 1 GW (.slice A n c) n (Ok l)∧Below w.heap.size w w'
end Go.Proofs.YtlikikpgmmkjbaaGreat.Tree
namespace Go.Proofs.YtlikikpgmmkjbaaGreat
open Tryz
section
open Go.Proofs.YtlikikpgmmkjbaaGreat.eV
def aGI (l:List ByteArray) (n k:Int) (t:List (BitVec 64)):Prop:=(k=0∧0≤n∧n<(l.length:Int)∧t=Tree.Q8 l.length (Tree.lists l) n.toNat)∨(k≠0∧¬(0≤n∧n<(l.length:Int))∧t= [])
def aGB (W:ag) (L:List (List aN)) (n e:Int) (r:BitVec 64):Prop :=
 (e=0∧uP W L∧0≤n∧n≤(L.length:Int)∧r=Tree.QR (Tree.lists ((L.take n.toNat).map hk)))∨(e≠0∧¬(uP W L∧0≤n∧n≤(L.length:Int))∧r=0)
def aa2 (W:ag) (L:List (List aN)) (n e:Int) (s:ByteArray) (t:List (BitVec 64)):Prop :=
 (e=0∧uP W L∧0≤n∧n<(L.length:Int)∧s=(L.map hk).getD n.toNat ByteArray.empty∧t=Tree.Q8 (L.map hk).length (Tree.lists (L.map hk)) n.toNat)∨(e≠0∧¬(uP W L∧0≤n∧n<(L.length:Int))∧s=r7 []∧t= [])
def aGH (r:BitVec 64) (n at_:Int) (s:ByteArray) (t:List (BitVec 64)) (m:List aN) (k:Int) (b:Bool):Prop :=
 (Tree.afW r s.data.toList at_.toNat n.toNat t=true∧x9 s m k∧b=(k == 0))∨(Tree.afW r s.data.toList at_.toNat n.toNat t=false∧m= []∧b=false∧k=0)
end
section
open Go.Proofs.YtlikikpgmmkjbaaGreat.eV
theorem ato (L:List (List aN)) {i:Nat} (h:i<L.length):(L.map hk).getD i ByteArray.empty=hk (L.getD i []):=by
 rw [aQK,aQK,aQ4,aQN h];rfl
theorem aa2.size {W:ag} {L:List (List aN)} {n e:Int} {s:ByteArray} {t:List (BitVec 64)} (h:aa2 W L n e s t):s.size≤140737488351232:=by
 rcases h with ⟨_,_,aF,γ,ab,_⟩ | ⟨_,_,ab,_⟩
 ·rw [ab,ato L (by omega)];exact alv _
 ·rw [ab];decide
def aOx:List (List aN):= [np, []]
end
section
open Go.Proofs.YtlikikpgmmkjbaaGreat.eV
theorem ajJ:∀ (L:List (List aN)) (W:ag),W.bn=0→h5 W L=0→(lH W L).bn=0∧(lH W L).now=W.now+L.length
 | [],W,h,_=>⟨h,by show W.now=_;simp⟩
 | l::r,W,h,aF=>by
  have γ:gX W l=0:=by
   unfold h5 at aF;split at aF
   ·rename_i γ;exact absurd aF γ
   ·rename_i γ;simpa using γ
  have ab:h5 (ld W l) r=0:=by
   unfold h5 at aF;rw [aQV (by simpa using γ)] at aF;exact aF
  obtain ⟨r1,r2,_⟩:=aCE γ;obtain ⟨g1,g2⟩:=ajJ r (ld W l) r1 ab;refine ⟨g1, ?_⟩;show (lH (ld W l) r).now=_;rw [g2,r2,aQQ];omega
end
section
theorem Jt (A:Option Addr) (c:Nat) (l:List aN) (w:World) (h:aN.rep.aI 48 w A c l):
  Calls prog 28 #[.slice A l.length c] w λ e w'=>∃ bH bV,e= .returned (.slice bH l.length bV)∧aN.rep.aG 51 48 w' w.heap.size (τ.ae bH) bH bV l∧(bH=none↔A=none)∧Below w.heap.size w w':=by
 obtain ⟨i0,ar,m_,oz,oA⟩:=aSY aN.info;have L0:∀ (w:World) (a:Option Addr) (n c h4 bV:Nat),(binOp .eql 44 (.slice a n c) (.slice none h4 bV)).run prog w= .ok (.bool a.isNone) w:=λ w a n c h4 bV=>aSB w _ _ a n c h4 bV underlying44;cases A with
 | none =>
  obtain rfl:c=0:=h.2.2.2.1 rfl;obtain rfl:l= []:=aRd (by have:=h.1;omega);go_enter func28,ntmps28;go_wp2_with fail
  go_ret;exact ⟨none,0,Z,τ.aG.nil _,by simp,aRe _ _⟩
 | some a =>
  have cx:Below w.heap.size w (w.alloc (.cells #[] 51)):=(aRe _ w).alloc (aQW _) _;obtain ⟨n,ew⟩:∃ n,Hid (l.length=n):=⟨_,aQO rfl⟩;obtain ⟨γ,ab,aw,aX,ess,bF,cb⟩:=h.keep cx;have uK:=aQO bF;have mm:∀ u∈ess.flatten,u.oneCell'=true:=by
   intro u hu;obtain ⟨y,aK,hu⟩:=aRV.1 hu;obtain ⟨a,ha⟩:=bF.left y aK;exact aN.rep.one ha u hu
  have nN:∀ (j:Nat) u,ess.flatten[j]? =some u→aN.rep.raw (j % aN.rep.size) u:=λ j u hu=>D' bF (by decide) hu;rw [ew.out] at γ aw cb;have cy:=aQO cb;have il:=aQO (Own.empty (e:= 51) (size:=aN.rep.size) (G:=aN.rep.raw) w (aQW w.heap.size));clear h aX bF cb;rw [ew.out];go_enter func28,ntmps28;go_wp2_with (at_builtin;refine Fq _ rfl _ _ 44 rfl w.heap.size 51 i0 aN.zero aN.rep.size 48 underlying44 ar m_ oz oA rfl (by decide) aN.rep.raw aN.iC _ _ _ rfl il.out (some a) n c ess.flatten rfl cy.out mm nN ?qc4 ?qc5 ?qc6 ?_)
  case qc4=>unfold maxLen;omega
  case qc5=>omega
  case qc6=>simp
  intro v' aP eI ic k7 fq;have cK:=cx.grown ic (by simp) (by intro k av;simp [Value.ownBlock] at av;omega);obtain ⟨cg,c1,rfl,hle,_,_,_,j9⟩:=eI.shape;have je:cg≠none:=by
   intro h;subst h;exact k7 (j9 Z)
  have aT:Hid (aN.rep.aG 51 48 aP w.heap.size (τ.ae cg) cg c1 l):=aQO (τ.aG.yT aN.plain uK.out (by rw [ew.out];exact aw) (by rw [ew.out];simpa using eI));have qL:=aQO je;clear ic k7 fq eI je j9 mm nN;go_wp2_with fail
  go_ret;exact ⟨cg,c1,Z,aT.out,⟨λ h=>absurd h qL.out,λ h=>by cases h⟩,cK⟩
end
end Go.Proofs.YtlikikpgmmkjbaaGreat
