import Derived.Test.YtlikikpgmmkjbaaGreatCrcSeal
set_option linter.unusedVariables false
set_option linter.unusedSimpArgs false
set_option maxRecDepth 100000
set_option maxHeartbeats 4000000
open Go.RowKit
namespace Go.Proofs.YtlikikpgmmkjbaaGreat
open Tryz
abbrev aXk:=@Go.Value.slice.injEq
abbrev aYg:=@List.mem_flatMap
abbrev aYY:=@List.length_finRange
section
theorem art (A:Option Addr) (len c n:Nat) (w:World) (hn:1≤n):
  Calls prog 86 #[.slice A len c, .int .i64 (n:Int)] w (λ e w'=>∃ dW gd,e= .returned (.func (.func 121) #[] #[.pointer (some ⟨dW,0,none⟩), .pointer (some ⟨gd,0,none⟩)])∧aN w' dW [.slice A len c] 22 (0,0)∧aN w' gd [.int .i64 (n:Int)] 3 (0,0)∧w.heap.size≤dW∧dW<gd∧Ext w w'):=by
 refine cl (n:=9) func86 Z Z Z ?_;refine ai<|cI Z Z Z Z λ cW bw a7 eA ab=> ?_;have:=a7.size;have bk:=τ (Ext.bK w) a7;have eG:=ab.lt;refine cI Z Z Z Z λ eM cA bo iq ah=> ?_;have:=bo.size;have bR:=τ bk bo;have ia:=ah.lt;refine va Z<|ag<|az<|ai<|J (ak Z (ah.one bf Z))<|J (blt Z Z)<|ag<| ?_;have iA:(decide ((n:Int)<1))=false:=by rw [aU1];omega
 refine hL (by rw [← iA];rfl)<|bt<|ai<|J (I_ Z Z)<|va Z<|ag<|rt<|bb (.tmp Z .nil)<| ?_;have ab:=ab.later bo;exact ⟨bw,cA,Z,ab,ah,by omega,by omega,bR⟩
theorem arv (q n len c dW gd:Nat) (A:Option Addr) (w0:World) (hn:1≤n) (hlen:len=q * n) (aL2:len≤c) (r4:c≤9223372036854775807) (m:Nat) (abi:aN w0 dW [.slice A len c] 22 (0,0)) (abj:aN w0 gd [.int .i64 (n:Int)] 3 (0,0)):
  SeqStopsK (j8 none) m prog 121 #[.pointer (some ⟨dW,0,none⟩), .pointer (some ⟨gd,0,none⟩)] (λ k:Fin q=>#[.slice (e_ A (k.1 * n+n) (k.1 * n) 1) n n]) (AG dW gd) (λ xs=>xs=List.finRange q) (λ _=>True) q w0:=by
 intro l jy aJi W Φ awI aLC av9 axy;have w5:=abi.RU (Φ.block dW abi.lt);have yE:=abj.RU (Φ.block gd abj.lt);have zc:EW W.heap.size jy [] W:=⟨awI,axy⟩;refine Rd.aq6 (n:=31) func121 Z Z Z ?_;refine Rd.az<|Rd.rg<|va Z<|nl<|Rd.aT<|Rd.bA<| ?_;refine Rd.dX (λ b4 b2 aG=>∃ k:Nat,b2= [(0, .func (.yield l) #[] #[]),(1, .pointer (some ⟨dW,0,none⟩)),(2, .pointer (some ⟨gd,0,none⟩)),(4, .int .i64 (((k * n:Nat):Int)))]∧b4=q - k∧True∧aN aG dW [.slice A len c] 22 (0,0)∧aN aG gd [.int .i64 (n:Int)] 3 (0,0)∧EW W.heap.size jy ((List.finRange q).take k) aG∧(k≤q)) _ _ ⟨0,Z,Z,trivial,w5,yE,(zc:EW W.heap.size jy [] _),by omega⟩ (.cons Z (.cons Z (.cons Z (.cons (bO Z) .nil)))) ?_;rintro Nr Kl cW ⟨k,rfl,rfl,bk,w5,yE,zc,aw⟩;have aQU:=w5.lt;have aQ2:=yE.lt;have hc:=k;refine Rd.az<|Rd.az<|Rd.rg<|vm Z<|J (ak Z (w5.one gy Z))<|J (cj underlying22 Z)<|J (blt Z Z)<|nl<|Rd.aT<| ?_;refine Rd.dw Z (λ mT=> ?_) (λ mT=> ?_)
 ·have IC:k<q:=Nat.lt_of_mul_lt_mul_right (a:=n) (by omega);have XH:k * n+n≤q * n:=by rw [← aVP];exact aU3 _ IC
  refine Rd.fv<|Rd.aT<|Rd.az<|Rd.bA<|Rd.az<| ?_;refine Rd.rd [(0,0),(1,0)] [0,1,2,3,4,5,6] (by kernel_rfl) (by kernel_rfl) ?_;refine bG Z (λ _ x=>ak Z ((yE.later x).one bf Z))<|bG Z (λ _ x=>ak Z ((w5.later x).one gy Z))<|ar Z (λ _=>aM Z)<|ar Z (λ _=>aDS (k * n) underlying22 cU Z Z Z (by omega))<|ar Z (λ _=>cj underlying22 Z)<|ar Z (λ _=>ou Z Z)<|ar Z (λ _=>fA Z)<|fn λ Ei nZ=> ?_;have:=nZ.size;refine Rd.aT<|Rd.az<|oR.rg<|oR.iC (aM Z) Z<| ?_;have w5:=w5.later nZ;refine oR.iC (ak Z (w5.one gy Z)) Z<|oR.iC (aM Z) Z<|oR.iC (aM Z) Z<|oR.iC (aM Z) Z<|oR.iC (bad Z Z (bH (by omega))) Z<|oR.iC (aM Z) Z<|oR.iC (aM Z) Z<|oR.iC (bad Z Z (bH (by omega))) Z<|oR.iC (aDR (k * n) (k * n+n) n underlying22 cU Z Z Z Z Z (by omega) (by omega) (by omega) (by omega) (by omega)) Z<| ?_;have yE:=yE.later nZ;have zc:=zc.later nZ;refine oR.aG5 Z Z Z (aG6 (av9 _ (⟨k,IC⟩:Fin q) _ zc.at_ (by rw [aUm,aYY];omega)) ?_);rintro e ani lf;obtain ⟨uq,rfl,γ,aa⟩:=aG7 lf;refine ⟨_,Z, ?_⟩
  replace γ:uq=true→EW W.heap.size jy ((List.finRange q).take k++ [⟨k,IC⟩]) ani∧AG dW gd _ ani:=λ h=>⟨⟨zc.UR,(γ h).1⟩,(γ h).2⟩
  refine oR.iC (eF Z) Z<|oR.nl<|Rd.aT<| ?_;refine Rd.ee Z (λ je=> ?_) (λ je=> ?_)
  ·refine Rd.rt<|eK<|Rd.bT<|my<|eK<|bb .nil<| ?_;exact ⟨⟨_,Z⟩, .inr ⟨_,trivial,aa (by simpa using je)⟩⟩
  ·obtain ⟨avZ,gv⟩:=γ (by simpa using je);have w5:=w5.RU gv.1;have yE:=yE.RU gv.2;refine Rd.fv<|Rd.bX<|Rd.aT<|Rd.rg<|vm Z<|J (ak Z (yE.one bf Z))<|J (bad Z Z (bH (by omega)))<|va Z<|nl<| ?_;exact Rd.cO _ _ ⟨k+1,Z,Z,trivial,w5,yE,(by rw [← au2 IC];exact avZ),by omega⟩ (by omega) (.cons Z (.cons Z (.cons Z (.cons (F5 Z (by rw [aVP];omega)) .nil))))
 ·have IC:k=q:=Nat.le_antisymm aw (Nat.le_of_mul_le_mul_right (c:=n) (by omega) hn);refine Rd.c_<|Rd.c9<|dn<|Rd.c8<|Rd.ne<|bb .nil<| ?_;exact ⟨⟨_,Z⟩, .inl ⟨_,Z,by have:=zc.at_;rwa [IC,aUI (by rw [aYY];omega)] at this⟩⟩
end
section
def aRo:κ UInt8:=κ.flat 1 (λ b=> [.int .u8 (b.toNat:Int)]) (λ _=>True) (λ _ u=>∃ n:Int,u= .int .u8 n) (λ _=>rfl) (by intro a u hu;simp at hu;subst hu;rfl) (by
 intro a j u hu;cases j with
 | zero=>simp at hu;exact ⟨_,hu.symm⟩
 | succ j=>simp at hu)
def HE (l:List UInt8):ByteArray:=⟨l.toArray⟩
section
variable {P:Program} {n:Nat} {E c0:List (Nat×Value)} {w:World} {d:Option Nat} {ty:TypeId} {pos:String} {af:Array Edge} {g:Option (Nat×Bool)} {x y z u:Operand} {t t2:TypeId}
end
end
section
def aEa (p:Int):UInt8:=([46,35,116,111]:List UInt8).getD p.toNat 0
def aDG (f:aE) (k j:Nat):List UInt8:=(((f.aY.drop (k * f.wide.toNat)).take (k * f.wide.toNat+f.wide.toNat - k * f.wide.toNat)).take j).map aEa
def txt (f:aE) (pre:List (Fin f.high.toNat)):List UInt8:=pre.flatMap λ k=>aDG f k.1 f.wide.toNat++ [10]
theorem aru (A:Option Addr) (len c:Nat) (i:Int) (w:World) (aq:1≤i):Calls prog 86 #[.slice A len c, .int .i64 i] w (λ e w'=>∃ dW gd,e= .returned (.func (.func 121) #[] #[.pointer (some ⟨dW,0,none⟩), .pointer (some ⟨gd,0,none⟩)])∧aN w' dW [.slice A len c] 22 (0,0)∧aN w' gd [.int .i64 (i.toNat:Int)] 3 (0,0)∧w.heap.size≤dW∧dW<gd∧Ext w w'):=by
 have e:i=(i.toNat:Int):=by omega
 have:=art A len c i.toNat w (by omega);rw [← e] at this;rw [← e];exact this
def aK9 (f:aE):ByteArray:=if f.bq≠0 then HE [] else HE (txt f (List.finRange f.high.toNat))
end
section
theorem apd:fa prog bS 22 3 8:=fa.lK (z:= .int .i64 0) (k:=1) underlying22 DE rfl rfl (by decide) (λ j u h=>Jn j u h)
theorem apc:fa prog aO.rep 44 51 48:=fa.lK (z:=aO.zero) (k:=6) underlying44 aO.info rfl rfl (by decide) aO.iY
def nums (l:List aO):List Int:=l.flatMap λ o=> [o.by_,o.kind,o.aU,o.spot.x,o.spot.y,o.what]
theorem Sk:∀ l:List aO,(nums l).length=6 * l.length
 | []=>rfl
 | o::l=>by unfold nums;rw [aVS,aUq,aUn];have:=Sk l;unfold nums at this;rw [this];simp;omega
theorem aBK {l:List aO} {k:Nat} (h:k<l.length):nums (l.take (k+1))=nums (l.take k)++ [(l.getD k default).by_,(l.getD k default).kind,(l.getD k default).aU,(l.getD k default).spot.x,(l.getD k default).spot.y,(l.getD k default).what]:=by
 unfold nums;rw [D8 (d:=default) h,aVx];simp
def jM (l:List aO):ByteArray:=if iu l≠0 then HE [] else kF.wE (Pack.strOf (Pack.q3 (nums l)))
theorem anc {l:List aO} (h:¬ iu l=0):jM l=HE []:=by unfold jM;rw [aUz h]
theorem TD {l:List aO} (h:iu l=0):jM l=kF.wE (Pack.strOf (Pack.q3 (nums l))):=by unfold jM;rw [aUr (by simpa using h)]
theorem Pack.ak2 (l:List Int):(Pack.q3 l).length≤10+10 * l.length:=by
 unfold Pack.q3;rw [aUq];have:=(Pack.BH l.length).1;have:=Pack.Ye l;omega
theorem aDx {w:World} {A:Option Addr} {c:Nat} {l:List Int} (h:bS.aK 8 w A c l):Rd w 1 A l.length (vJ l):=by
 obtain ⟨s1,s2,Gy,SG,ess,Gz,BI⟩:=h;rw [V' Gz] at BI;exact BI
theorem azp {w:World} {A:Option Addr} {c:Nat} {l:List Int} (h:bS.aK 8 w A c l):sO l:=λ x hx=>bN.1 (Jp h x hx)
theorem aCX (l:List Int) (A:Option Addr) (c:Nat) (w:World) (hn:l.length≤1000) (h:bS.aK 8 w A c l):Calls prog 92 #[.slice A l.length c] w λ e w'=>e= .returned (.tuple #[.string (Pack.strOf (Pack.q3 l)), .int .i64 0])∧Ext w w' :=
 Pack.ak1 A l.length c l rfl hn (azp h) w (aDx h)
theorem agh {s:List UInt8} {out:List Int} {j:Int} (h:Pack.Ar s out j):out.length≤1000:=by
 obtain ⟨_,γ,aa⟩:=h;by_cases e:j=0
 ·exact (γ e).2
 ·rw [(aa e).1];exact aU6 _
theorem aCh {w:World} {B n c:Nat} {A:Option Addr} {l:List Int} (h:Own w B 3 1 Pe (.slice A n c) l.length (vJ l)) (aB:l.length≤1000) (QX:sO l):n=l.length∧bS.aD 3 8 w B (κ.ae A) A c l:=by
 have hn:n=l.length:=by
  rcases h.2 with ⟨γ,aa⟩ | ⟨g,cap,cur,hv,_⟩
  ·injection γ with _ e _;rw [e,aa]
  ·injection hv
 subst hn;refine ⟨Z,κ.aD.BE (ess:=l.map λ a=> [Value.int .i64 a]) alm (US λ a ha=>bN.2 (QX a ha)) (by omega) ?_⟩;have qP:(l.map λ a=> [Value.int .i64 a]).flatten=l.map (Value.int .i64):=V' (w:=w) (US λ a ha=>bN.2 (QX a ha));rw [qP];exact h
theorem avF (s:ByteArray) (hs:s.size≤9223372036854775807) (w:World):Calls prog 85 #[.string s] w (λ e w'=>∃ out k A c,Pack.Ar s.data.toList out k∧e= .returned (.tuple #[.slice A out.length c, .int .i64 k])∧bS.aD 3 8 w' w.heap.size (κ.ae A) A c out∧Ext w w'):=by
 refine (Pack.avE s hs w).mono λ e w' he=> ?_;obtain ⟨out,k,A,n,c,γ,aa,av,aV⟩:=he;obtain ⟨rfl,bJ⟩:=aCh av (agh γ) γ.1;exact ⟨out,k,A,c,γ,aa,bJ,aV⟩
theorem aB5 {s:ByteArray} (h:s.size≤140737488351232):(kF.l5 s).1.size≤9223372036854775807:=by
 rcases kF.akE s with ⟨_,aa⟩ | ⟨_,aa⟩
 ·have:=aVA ByteArray.size aa;rw [kF.SK] at this;omega
 ·rw [aa];decide
def fC (l:List Int) (k:Nat):List Int:=(l.drop (k * 6)).take (k * 6+6 - k * 6)
theorem adY {l:List Int} {k:Nat} (h:k * 6+6≤l.length):(fC l k).length=6:=by unfold fC;rw [aUm,aUE];omega
theorem arw {l:List Int} (h:∀ a∈l,fK a) (k i:Nat):fK ((fC l k).getD i 0):=by
 by_cases aq:i<(fC l k).length
 ·exact h _ (aXL (aWv (jT (d:=0) aq)))
 ·rw [aUi,aVp (by omega)];exact bN.2 (by decide)
def x9 (n:List Int):aO:=⟨n.getD 0 0,n.getD 1 0,n.getD 2 0,⟨n.getD 3 0,n.getD 4 0⟩,n.getD 5 0⟩
def Jd (out:List Int) (q:Nat):List aO:=(List.finRange q).map λ k=>x9 (fC out k.1)
def Gr (out:List Int):List aO:=Jd out (out.length / 6)
theorem Jc {out:List Int} {q:Nat} (h:out.length=q * 6):Gr out=Jd out q:=by unfold Gr;rw [show out.length / 6=q by omega]
def CJ (s:ByteArray) (m:List aO) (k:Int):Prop :=
 ((kF.l5 s).2≠0∧m= []∧k=(kF.l5 s).2)∨((kF.l5 s).2=0∧∃ out j,Pack.Ar (kF.l5 s).1.data.toList out j∧((j≠0∧m= []∧k=j)∨(j=0∧out.length % 6≠0∧m= []∧k=4)∨
  (j=0∧out.length % 6=0∧((iu (Gr out)≠0∧m= []∧k=iu (Gr out))∨(iu (Gr out)=0∧m=Gr out∧k=0)))))
theorem aCj (A:Option Addr) (c:Nat) (l:List aO) (w:World) (aB:aO.rep.aK 48 w A c l):
  Calls prog 79 #[.slice A l.length c] w (λ e w'=>e= .returned (.tuple #[.string (jM l), .int .i64 (iu l)])∧Ext w w'):=by
 have qR:=aB.dT;refine cl (n:=49) func79 Z Z Z ?_;refine ai<|va Z<|va Z<|ag<|az<|ai<|vm Z<|ca VL Z Z ((Y3 _ _ l _ (aB.keep (Ext.bK w))).mono ?_);rintro e cW ⟨rfl,et⟩;refine ⟨_,Z, ?_⟩;have:=et.size;have bk:=τ (Ext.bK w) et;refine va Z<|ag<|ai<|vm Z<|J (bne Z Z)<|ag<| ?_;refine eU Z (λ v8=> ?_) (λ v8=> ?_)
 ·refine ai<|vm Z<|va Z<|va Z<|ag<|rt<|bT<|bb (.tmp Z (.tmp Z .nil))<| ?_;exact ⟨by rw [anc v8];rfl,bk⟩
 ·obtain ⟨axJ,_⟩:=NG (by simpa using v8);refine bt<|ai<|va Z<|ag<|az<|ai<|vm Z<|J (cj underlying44 Z)<|vm Z<|ag<|bA<| ?_;refine dX (λ b4 b2 aG=>∃ k:Nat,∃ OW:Option Addr,∃ Vp:Nat,b2= [(2, .string (HE [])),(3, .int .i64 0),(5, .slice OW ((nums (l.take k)).length) Vp),(15, .slice A l.length c),(16, .int .i64 (l.length:Int)),(17, .int .i64 (k:Int))]∧b4=l.length - k∧Ext w aG∧bS.aD 3 8 aG w.heap.size (κ.ae OW) OW Vp (nums (l.take k))∧(k≤l.length)) _ _ ⟨0,none,0,Z,Z,bk,(κ.aD.nil _),by omega⟩ (.cons Z (.cons Z (.cons Z (.cons Z (.cons Z (.cons (bO Z) .nil)))))) ?_;rintro aO1 aI9 aGv ⟨k,OW,Vp,rfl,rfl,G4,yO,aw⟩;have:=G4.size;have amB:=λ q I=>(yO.lt q I).2;have ahK:=Sk (l.take k);have Mw:(l.take k).length=k:=by rw [aUm];omega
  refine ai<|J (blt Z Z)<|ag<|az<| ?_;refine dw Z (λ je=> ?_) (λ je=> ?_)
  ·have Bh:=aO.oT aB _ (jT (d:=default) (show k<l.length by omega));refine bt<|az<|bA<|ai<|J (bY k underlying44 eI Z Z ((aB.keep G4).bu (aX k)) Z (by omega))<|J (ak Z (κ.aK.hb Dg ((aB.keep G4).cr (aX k)) (dH (l:=l) (u:=default) (by omega)) iM eI))<|al Z Qp Z Z λ wI yZ dC Nb gj=> ?_;have:=dC.size;have kB:=τ G4 dC;have NJ:=gj.lt;refine st (new:= [.int .i64 ((l.getD k default).by_), .int .i64 ((l.getD k default).kind), .int .i64 ((l.getD k default).aU), .int .i64 ((l.getD k default).spot.x), .int .i64 ((l.getD k default).spot.y), .int .i64 ((l.getD k default).what)]) Z Z gj Z eI Z Z Z λ u6 sg gj=> ?_;have:=sg.size;have jr:=Ext.mod kB sg bx;refine ag<|rg<|vm Z<|J (au pO Z)<|J (ak Z (gj.one bf Z))<|J (au pN Z)<|J (ak Z (gj.one bf Z))<|J (au C3 Z)<|J (ak Z (gj.one bf Z))<|J (au C4 Z)<|J (au ij Z)<|J (ak Z (gj.one bf Z))<|J (au C4 Z)<|J (au iN Z)<|J (ak Z (gj.one bf Z))<|J (au C5 Z)<|J (ak Z (gj.one bf Z))<|c6 (e:= 3) (cs:= [.int .i64 ((l.getD k default).by_), .int .i64 ((l.getD k default).kind), .int .i64 ((l.getD k default).aU), .int .i64 ((l.getD k default).spot.x), .int .i64 ((l.getD k default).spot.y), .int .i64 ((l.getD k default).what)]) Z (λ _=>by kernel_rfl) Z λ nd HB ep Yo po=> ?_;have:=ep.size;have eO:=τ jr ep;have NK:=po.lt;have yO:=yO.later dC;have yO:=yO.mod sg (b' amB);have yO:=yO.later ep;refine ap apd κ.dE yO (aN.LX (R:=bS) (by_:=8) (k:= [(l.getD k default).by_,(l.getD k default).kind,(l.getD k default).aU,(l.getD k default).spot.x,(l.getD k default).spot.y,(l.getD k default).what]) po [[.int .i64 ((l.getD k default).by_)], [.int .i64 ((l.getD k default).kind)], [.int .i64 ((l.getD k default).aU)], [.int .i64 ((l.getD k default).spot.x)], [.int .i64 ((l.getD k default).spot.y)], [.int .i64 ((l.getD k default).what)]] Z (⟨⟨Z,(Bh.1)⟩,⟨⟨Z,(Bh.2.1)⟩,⟨⟨Z,(Bh.2.2.1)⟩,⟨⟨Z,(Bh.2.2.2.1)⟩,⟨⟨Z,(Bh.2.2.2.2.1)⟩,⟨⟨Z,(Bh.2.2.2.2.2)⟩,trivial⟩⟩⟩⟩⟩⟩) (by simp) (by simp)) Z Z (by simp only [aUn,aUt];omega) (by simp only [aUn,aUt];omega) eO.size Z λ tG anQ aqV gW Pw aLp aPz=> ?_;have:=gW.size;have gw:=Ext.mod eO gW (λ q I=>(yO.lt q I).1);have Ec:=λ q I=>(Pw.lt q I).2;have:=gW.size;refine va Z<|nl<|bX<|aT<|rg<|J (bad Z Z (bH (by omega)))<|vm Z<|nl<| ?_;have a8:nums (l.take (k+1))=nums (l.take k)++ [(l.getD k default).by_,(l.getD k default).kind,(l.getD k default).aU,(l.getD k default).spot.x,(l.getD k default).spot.y,(l.getD k default).what]:=aBK (by omega);exact cO _ _ ⟨k+1,anQ,aqV,Z,Z,gw,(by rw [a8];exact Pw),by omega⟩ (by omega) (.cons Z (.cons Z (.cons (by rw [a8];rfl) (.cons Z (.cons Z (.cons (bO Z) .nil))))))
  ·refine c_<|c9<|dn<|c8<|aT<|ai<|vm Z<|ca afl Z Z ((aCX (nums (l.take k)) _ _ _ (by omega) yO.has).mono ?_);rintro e wJ ⟨rfl,e4⟩;refine ⟨_,Z, ?_⟩;have:=e4.size;have ma:=τ G4 e4;refine vm Z<|J (ex Z Z)<|J (ex Z Z)<|va Z<|va Z<|ag<|az<|ai<|vm Z<|J (bne Z Z)<|ag<|hL Z<|bt<|ai<|vm Z<|ca atG Z Z ((kF.ZK _ (by rw [Pack.Ju];have:=Pack.ak2 (nums (l.take k));omega) _).mono ?_);rintro e JL ⟨rfl,Aa⟩;refine ⟨_,Z, ?_⟩;have:=Aa.size;have sB:=τ ma Aa;refine va Z<|va Z<|ag<|rt<|bb (.tmp Z (.tmp Z .nil))<| ?_;have mS:k=l.length:=by omega
   subst mS;exact ⟨by rw [TD (by simpa using v8),show iu l=0 by simpa using v8,aVd];rfl,sB⟩
theorem aCc (s:ByteArray) (w:World) (hs:s.size≤140737488351232):
  Calls prog 55 #[.string s] w (λ e w'=>∃ m k A c,CJ s m k∧e= .returned (.tuple #[.slice A m.length c, .int .i64 k])∧aO.rep.aD 51 48 w' w.heap.size (κ.ae A) A c m∧Ext w w'):=by
 refine Rd.cl (m:=5) (n:=61) func55 Z Z Z ?_;refine Rd.az<|Rd.rg<|va Z<|va Z<|nl<|Rd.aT<|Rd.az<|Rd.rg<|vm Z<|ca atH Z Z ((kF.aB3 s (by omega) _).mono ?_);rintro e cW ⟨rfl,et⟩;refine ⟨_,Z, ?_⟩;have:=et.size;have bk:=τ (Ext.bK w) et;refine vm Z<|J (ex Z Z)<|J (ex Z Z)<|va Z<|va Z<|nl<|Rd.aT<|Rd.az<|Rd.az<|Rd.rg<|vm Z<|J (bne Z Z)<|nl<|Rd.aT<| ?_;refine Rd.eU Z (λ v8=> ?_) (λ v8=> ?_)
 ·refine Rd.az<|Rd.rg<|vm Z<|va Z<|va Z<|nl<|Rd.aT<|Rd.rt<|Rd.bT<|Rd.bb (.tmp Z (.tmp Z .nil))<| ?_;exact ⟨[],_,none,0, .inl ⟨by simpa using v8,rfl,rfl⟩,Z,κ.aD.nil _,bk⟩
 ·refine Rd.fv<|Rd.aT<|Rd.az<|Rd.rg<|vm Z<|ca atI Z Z ((avF ((kF.l5 s).1) (aB5 (by omega)) _).mono ?_);rintro e eM ⟨out,j,OU,adF,LF,rfl,dv,cL⟩;refine ⟨_,Z, ?_⟩;have:=cL.size;have bR:=τ bk cL;have S6:=λ q I=>(dv.lt q I).2;have YE:=λ q I=>(dv.lt q I).1;have axn:=agh LF;refine vm Z<|J (ex Z Z)<|J (ex Z Z)<|va Z<|va Z<|nl<|Rd.aT<|Rd.az<|Rd.az<|Rd.rg<|vm Z<|J (bne Z Z)<|nl<|Rd.aT<| ?_;refine Rd.eU Z (λ kN=> ?_) (λ kN=> ?_)
  ·refine Rd.az<|Rd.rg<|vm Z<|va Z<|va Z<|nl<|Rd.aT<|Rd.rt<|Rd.bT<|Rd.bb (.tmp Z (.tmp Z .nil))<| ?_;exact ⟨[],_,none,0, .inr ⟨by simpa using v8,out,j,LF, .inl ⟨by simpa using kN,rfl,rfl⟩⟩,Z,κ.aD.nil _,bR⟩
  ·have aLN:out.length≤1000:=axn;refine Rd.fv<|Rd.aT<|Rd.az<|Rd.az<|Rd.rg<|vm Z<|J (cj underlying22 Z)<|J (aqt Z Z (by omega) (by omega))<|J (bne Z Z)<|nl<|Rd.aT<| ?_;refine Rd.eU Z (λ qL=> ?_) (λ qL=> ?_)
   ·refine Rd.az<|Rd.rg<|va Z<|va Z<|nl<|Rd.aT<|Rd.rt<|Rd.bT<|Rd.bb (.tmp Z (.tmp Z .nil))<| ?_;exact ⟨[],_,none,0, .inr ⟨by simpa using v8,out,j,LF, .inr (.inl ⟨by simpa using kN,by omega,rfl,rfl⟩)⟩,Z,κ.aD.nil _,bR⟩
   ·obtain ⟨q,Mm⟩:∃ q,out.length=q * 6:=⟨out.length / 6,by omega⟩;refine Rd.fv<|Rd.aT<|Rd.az<|Rd.rg<|al Z atJ Z Z λ zZ PL qj aAe O0=> ?_;have:=qj.size;have iX:=τ bR qj;have aC8:=O0.lt;refine nl<|Rd.aT<|Rd.az<|Rd.az<|Rd.rg<|vm Z<|ca atK Z Z ((aru _ _ _ 6 _ (by omega)).mono ?_);rintro e z1 ⟨dW,gd,rfl,abS,abT,jQ,F4,hP⟩;refine ⟨_,Z, ?_⟩;have:=hP.size;have nk:=τ iX hP;have nQ:=abS.lt;have yc:=abT.lt;refine nl<|Rd.aT<|Rd.bA<| ?_;have O0:=O0.later hP;have dv:=dv.later (τ qj hP);refine Rd.bK (enc:=(λ k:Fin q=> .slice (e_ OU (k.1 * 6+6) (k.1 * 6) 1) 6 6)) Z atL (arv q 6 out.length adF dW gd OU _ (by omega) Mm dv.has.1 dv.has.2.1 _ abS abT) (by omega) (by omega) (Ext.bK _) (by decide) Z Z (λ pre W=>∃ j2:Option Addr,∃ co:Nat,aN W PL [.slice j2 (((pre.map λ k=>x9 (fC out k.1))).length) co] 44 (0,0)∧aO.rep.aD 51 48 W z1.heap.size (κ.ae j2) j2 co ((pre.map λ k=>x9 (fC out k.1)))∧bS.aD 3 8 W cW.heap.size (κ.ae OU) OU adF (out)∧Mod [PL] z1 W) (by rintro aRs aJx aJy aJp ⟨j2,co,nn,fo,dv,aHf⟩ R5 Ij;exact ⟨j2,co,nn.mod R5 (λ I=>(Ij _ I).2 _ _ _ nn),fo.mod R5 (λ q I hs=>by obtain ⟨_,_,_,hc⟩:=fo.P_ q I;exact (Ij q hs).2 _ _ _ hc),dv.mod R5 (λ q I hs=>by obtain ⟨_,_,_,hc⟩:=dv.P_ q I;exact (Ij q hs).2 _ _ _ hc),aHf.md R5 (λ q I=> .inr (Ij q I).1)⟩) ⟨none,0,O0,κ.aD.nil _,dv,Mod.bK _ _⟩ ?_ ?_
    ·intro aNv pre ei Th WQ axS;obtain ⟨j2,co,nn,fo,dv,aaB⟩:=WQ;have zm:∀ q∈ [PL],w.heap.size≤q:=λ q I=>by rw [aUg.1 I];omega
     have xI:yL z1.heap.size Th Th:=yL.bK _ _;have:=aaB.size;have aC9:=nn.lt;have Z9:=λ q I=>(fo.lt q I).2;have Ng:=λ q I=>(fo.lt q I).1;have pc:=λ q I=>(dv.lt q I).2;have nJ:=λ q I=>(dv.lt q I).1;have hx:=ei.2;have Mx:ei.1 * 6+6≤q * 6:=by omega
     have aMB:pre.length<q:=axS;have r3:=adY (l:=out) (k:=ei.1) (by omega);have IE:=λ i=>arw (Jp dv.has) ei.1 i;have uM:((pre.map λ k=>x9 (fC out k.1))).length=pre.length:=aUZ _;refine Rd.bA<| ?_;refine Rd.rd [(0,0),(3,0),(6,0),(9,0),(12,0),(15,0),(19,0),(21,2),(22,3),(23,3)] [0,1,2,3,4,5,6,7,8,9,10,11,12,13,14,15,16,17,18,19,20,21,22,23] (by kernel_rfl) (by kernel_rfl) ?_;refine bG Z (λ _ x=>ak Z ((nn.later x).one kL Z))<|ar Z (λ _=>aM Z)<|ar Z (λ _=>bY 0 underlying22 cU Z Z ((dv.has.chunk (ei.1 * 6) (ei.1 * 6+6) (by omega) (by omega)).bu (aX 0 (by first | (rw [aUm,aUE];omega) | omega))) Z (by omega))<|bG Z (λ _ x=>ak Z (κ.aK.fu gV (((dv.later x).has.chunk (ei.1 * 6) (ei.1 * 6+6) (by omega) (by omega)).cr (aX 0 (by first | (rw [aUm,aUE];omega) | omega))) (dH (l:=fC out ei.1) (u:=0) (by first | (rw [aUm,aUE];omega) | omega)) Z bf))<|ar Z (λ _=>aM Z)<|ar Z (λ _=>bY 1 underlying22 cU Z Z ((dv.has.chunk (ei.1 * 6) (ei.1 * 6+6) (by omega) (by omega)).bu (aX 1 (by first | (rw [aUm,aUE];omega) | omega))) Z (by omega))<|bG Z (λ _ x=>ak Z (κ.aK.fu gV (((dv.later x).has.chunk (ei.1 * 6) (ei.1 * 6+6) (by omega) (by omega)).cr (aX 1 (by first | (rw [aUm,aUE];omega) | omega))) (dH (l:=fC out ei.1) (u:=0) (by first | (rw [aUm,aUE];omega) | omega)) Z bf))<|ar Z (λ _=>aM Z)<|ar Z (λ _=>bY 2 underlying22 cU Z Z ((dv.has.chunk (ei.1 * 6) (ei.1 * 6+6) (by omega) (by omega)).bu (aX 2 (by first | (rw [aUm,aUE];omega) | omega))) Z (by omega))<|bG Z (λ _ x=>ak Z (κ.aK.fu gV (((dv.later x).has.chunk (ei.1 * 6) (ei.1 * 6+6) (by omega) (by omega)).cr (aX 2 (by first | (rw [aUm,aUE];omega) | omega))) (dH (l:=fC out ei.1) (u:=0) (by first | (rw [aUm,aUE];omega) | omega)) Z bf))<|ar Z (λ _=>aM Z)<|ar Z (λ _=>bY 3 underlying22 cU Z Z ((dv.has.chunk (ei.1 * 6) (ei.1 * 6+6) (by omega) (by omega)).bu (aX 3 (by first | (rw [aUm,aUE];omega) | omega))) Z (by omega))<|bG Z (λ _ x=>ak Z (κ.aK.fu gV (((dv.later x).has.chunk (ei.1 * 6) (ei.1 * 6+6) (by omega) (by omega)).cr (aX 3 (by first | (rw [aUm,aUE];omega) | omega))) (dH (l:=fC out ei.1) (u:=0) (by first | (rw [aUm,aUE];omega) | omega)) Z bf))<|ar Z (λ _=>aM Z)<|ar Z (λ _=>bY 4 underlying22 cU Z Z ((dv.has.chunk (ei.1 * 6) (ei.1 * 6+6) (by omega) (by omega)).bu (aX 4 (by first | (rw [aUm,aUE];omega) | omega))) Z (by omega))<|bG Z (λ _ x=>ak Z (κ.aK.fu gV (((dv.later x).has.chunk (ei.1 * 6) (ei.1 * 6+6) (by omega) (by omega)).cr (aX 4 (by first | (rw [aUm,aUE];omega) | omega))) (dH (l:=fC out ei.1) (u:=0) (by first | (rw [aUm,aUE];omega) | omega)) Z bf))<|rU (v:= .agg #[.int .i64 ((fC out ei.1).getD 3 0), .int .i64 ((fC out ei.1).getD 4 0)]) Z Z (λ _=>cM Z (by kernel_rfl)) Z<|ar Z (λ _=>aM Z)<|ar Z (λ _=>bY 5 underlying22 cU Z Z ((dv.has.chunk (ei.1 * 6) (ei.1 * 6+6) (by omega) (by omega)).bu (aX 5 (by first | (rw [aUm,aUE];omega) | omega))) Z (by omega))<|bG Z (λ _ x=>ak Z (κ.aK.fu gV (((dv.later x).has.chunk (ei.1 * 6) (ei.1 * 6+6) (by omega) (by omega)).cr (aX 5 (by first | (rw [aUm,aUE];omega) | omega))) (dH (l:=fC out ei.1) (u:=0) (by first | (rw [aUm,aUE];omega) | omega)) Z bf))<|rU (v:= .agg #[.int .i64 ((fC out ei.1).getD 0 0), .int .i64 ((fC out ei.1).getD 1 0), .int .i64 ((fC out ei.1).getD 2 0), .int .i64 ((fC out ei.1).getD 3 0), .int .i64 ((fC out ei.1).getD 4 0), .int .i64 ((fC out ei.1).getD 5 0)]) Z Z (λ _=>cM Z (by kernel_rfl)) Z<|fS Z Z Z λ tG fi Q hK=>c6 (e:= 51) (cs:= [.int .i64 ((fC out ei.1).getD 0 0), .int .i64 ((fC out ei.1).getD 1 0), .int .i64 ((fC out ei.1).getD 2 0), .int .i64 ((fC out ei.1).getD 3 0), .int .i64 ((fC out ei.1).getD 4 0), .int .i64 ((fC out ei.1).getD 5 0)]) Z (λ _=>by kernel_rfl) Z λ u9 ap7 h1 aAi Kf=>hK _ _ ⟨τ fi h1, ?_⟩;have:=fi.size;have gw:=aaB.trans (Mod.bF fi);have:=h1.size;have js:=gw.trans (Mod.bF h1);have Zk:=Kf.lt;have fo:=fo.later (τ fi h1);have aCp:=fo;refine en Z Z Z λ wJ e4 Q hK=>ap apc κ.dE (fo.later e4) ((aN.gM (R:=aO.rep) (by_:=48) (q:=(⟨(fC out ei.1).getD 0 0,(fC out ei.1).getD 1 0,(fC out ei.1).getD 2 0,⟨(fC out ei.1).getD 3 0,(fC out ei.1).getD 4 0⟩,(fC out ei.1).getD 5 0⟩:aO)) Kf ⟨Z,⟨IE 0,IE 1,IE 2,IE 3,IE 4,IE 5⟩⟩ (by decide)).keep e4) Z Z (by simp only [aUn,aUt];omega) (by simp only [aUn,aUt];omega) (by have:=e4.size;omega) Z λ JL abd adM jS ug avz aPC=>hK _ _ ?_;have:=e4.size;have ma:=js.trans (Mod.bF e4);have:=jS.size;have sB:=ma.md jS (λ q I=> .inr ((λ q I=>aUP (by omega) ((fo.later e4).lt q I).1) q I));have Ed:=λ q I=>(ug.lt q I).2;have:=jS.size;have nn:=nn.later (τ fi (τ h1 e4));have nA:∀ q∈κ.ae j2,q=PL→False:=λ q I Φ=>by (have:=Ng q I;omega)
     have nn:=nn.mod jS (λ I=>nA _ I rfl);have aCq:=nn;refine en Z Z Z λ Oh jZ Q hK=>st (new:= [.slice abd (((pre.map λ k=>x9 (fC out k.1))++ [(⟨(fC out ei.1).getD 0 0,(fC out ei.1).getD 1 0,(fC out ei.1).getD 2 0,⟨(fC out ei.1).getD 3 0,(fC out ei.1).getD 4 0⟩,(fC out ei.1).getD 5 0⟩:aO)]).length) adM]) Z Z (nn.later jZ) Z uy Z Z Z λ q7 lj nn=>hK _ _ ?_;have:=jZ.size;have yw:=sB.trans (Mod.bF jZ);have:=lj.size;have ih:=yw.md lj (λ q I=> .inl I);refine fn λ JO nY=> ?_;have:=nY.size;have sD:=ih.trans (Mod.bF nY);refine Rd.bX<| ?_;have xI:=xI.later (τ fi (τ h1 e4));have xI:=xI.mod jS (λ q I=>(aCp.later e4).P_ q I);have xI:=xI.later jZ;have xI:=xI.mod lj (λ q I=>by rw [aUg.1 I];exact ⟨_,_,_,(aCq.later jZ)⟩);have xI:=xI.later nY;have nn:=nn.later nY;have ug:=ug.later jZ;have ug:=ug.mod lj (λ q I h=>by have Φ:=aUg.1 h;exfalso;(exact aUw (avz q I) (λ M7=>by (exact nA q M7 Φ)) (λ M7=>by omega)));have ug:=ug.later nY;have dv:=dv.later (τ fi (τ h1 e4));have dv:=dv.mod jS (λ q I h=>by exfalso;(have:=Ng q h;(have:=pc q I;have:=S6 q I;omega)));have dv:=dv.later jZ;have dv:=dv.mod lj (λ q I h=>by have Φ:=aUg.1 h;exfalso;(have:=pc q I;have:=S6 q I;omega));have dv:=dv.later nY;exact λ _ _=>⟨xI,Mod.azW aaB sD ⟨by omega,by omega⟩ aQ aQ,⟨abd,adM,(by rw [aUK];exact nn),(by rw [aUK];exact ug),dv,sD⟩⟩
    ·intro D aG4 aS0 aLx Ij WQ zb;obtain ⟨j2,co,nn,fo,dv,anp⟩:=WQ;have Ih:aG4=List.finRange q:=Ij;subst Ih;have:=anp.size;have aHd:=Ext.mod nk anp (λ q I=>by rw [aUg.1 I];omega);refine gT.bX<|gT.aT<|gT.az<|gT.az<|gT.rg<|gT.iC (ak Z (nn.one kL Z)) Z<|gT.ca VL Z Z ((Y3 _ _ (Jd out q) _ fo.has).mono ?_);rintro e aT9 ⟨rfl,oH⟩;refine ⟨_,Z, ?_⟩;have:=oH.size;have anx:=τ aHd oH;refine gT.iC (fA Z) Z<|gT.nl<|gT.aT<|gT.az<|gT.rg<|gT.iC (aM Z) Z<|gT.iC (bne Z Z) Z<|gT.nl<|gT.aT<| ?_;refine gT.eU Z (λ LU=> ?_) (λ LU=> ?_)
     ·refine gT.az<|gT.rg<|gT.iC (aM Z) Z<|gT.iC (fA Z) Z<|gT.iC (fA Z) Z<|gT.nl<|gT.aT<|gT.rt<|gT.bT<| ?_;have zb:=zb.later oH;refine gT.bb zb (.tmp Z (.tmp Z .nil))<| ?_;exact ⟨[],_,none,0, .inr ⟨by simpa using v8,out,j,LF, .inr (.inr ⟨by simpa using kN,by omega, .inl ⟨by rw [Jc Mm];simpa using LU,rfl,by rw [Jc Mm]⟩⟩)⟩,Z,κ.aD.nil _,Ext.mod anx zb.un (λ q I=>by rw [aUg.1 I];omega)⟩
     ·refine gT.fv<|gT.aT<|gT.az<|gT.rg<| ?_;have nn:=nn.later oH;refine gT.iC (ak Z (nn.one kL Z)) Z<|gT.iC (fA Z) Z<|gT.iC (fA Z) Z<|gT.nl<|gT.aT<|gT.rt<| ?_;have zb:=zb.later oH;refine gT.bb zb (.tmp Z (.tmp Z .nil))<| ?_;have fo:=fo.later oH;exact ⟨_,_,j2,co, .inr ⟨by simpa using v8,out,j,LF, .inr (.inr ⟨by simpa using kN,by omega, .inr ⟨by rw [Jc Mm];simpa using LU,(Jc Mm).symm,rfl⟩⟩)⟩,rfl,(fo.down (by omega)).mod zb.un (λ lM γ aa=>by have av:=aUg.1 aa;subst av;obtain ⟨_,_,_,hc⟩:=fo.P_ _ γ;rw [show _=_ from zb] at hc;exact nomatch hc),Ext.mod anx zb.un (λ q I=>by rw [aUg.1 I];omega)⟩
end
section
theorem ao9:Kn prog aO.cells 51 :=by
 intro a b w;obtain ⟨a0,cy,a2,⟨a3,a4⟩,a5⟩:=a;obtain ⟨yY,hX,dW,⟨gd,pJ⟩,HA⟩:=b;simp only [aO.cells,aO.mk.injEq,ay.mk.injEq];constructor
 ·go_simp
  repeat' split
  all_goals simp_all
 ·go_simp
  repeat' split
  all_goals simp_all
theorem ao8:(prog).eqGuardType (prog).depth 51 =false:=by kernel_rfl
theorem adZ {α:Type} (n:Nat):∀ (q:Nat) (l:List α),l.length=q * n→((List.finRange q).flatMap λ k=>(l.drop (k.1 * n)).take n)=l
 | 0,l,h=>by
  have:l= []:=aUQ (by omega);subst this;rfl
 | q+1,l,h=>by
  rw [aVP] at h;have bI:=adZ n q (l.drop n) (by rw [aUE];omega);rw [List.finRange_succ,aVS,List.flatMap_map];have e:(λ k:Fin q=>(l.drop (k.succ.1 * n)).take n)=λ k:Fin q=>((l.drop n).drop (k.1 * n)).take n:=by
   funext k
   rw [aYs];congr 2;show (k.1+1) * n=_;rw [aVP];omega
  show (l.drop (0 * n)).take n++((List.finRange q).flatMap λ k:Fin q=>(l.drop (k.succ.1 * n)).take n)=l;rw [e,bI,aYM,aWT,aWl]
theorem Sj (o:aO) (l:List aO):nums (o::l)=o.by_::o.kind::o.aU::o.spot.x::o.spot.y::o.what::nums l:=rfl
theorem ako:∀ {a b:List aO},nums a=nums b→a=b
 | [], [],_=>rfl
 | [],o::b,h=>by rw [Sj] at h;exact nomatch h
 | o::a, [],h=>by rw [Sj] at h;exact nomatch h
 | o::a,p::b,h=>by
  rw [Sj,Sj] at h;injection h with γ h
  injection h with aa h
  injection h with av h
  injection h with aV h
  injection h with bJ h
  injection h with cg h
  have e:o=p:=by
   obtain ⟨cy,a2,a3,⟨a4,a5⟩,Hv⟩:=o;obtain ⟨c1,c2,c3,⟨c4,c5⟩,dQ⟩:=p;simp only at γ aa av aV bJ cg;subst γ aa av aV bJ cg;rfl
  rw [e,ako h]
theorem aAE {l:List Int} (h:l.length=6): [l.getD 0 0,l.getD 1 0,l.getD 2 0,l.getD 3 0,l.getD 4 0,l.getD 5 0]=l:=by
 match l,h with
 | [a,b,c,d,e,f],_=>rfl
theorem akp {out:List Int} {q:Nat} (h:out.length=q * 6):nums (Jd out q)=out:=by
 have e:nums (Jd out q)=(List.finRange q).flatMap λ k=>(out.drop (k.1 * 6)).take 6:=by
  unfold nums Jd;rw [List.flatMap_map];have bl:(λ k:Fin q=> [(x9 (fC out k.1)).by_,(x9 (fC out k.1)).kind,(x9 (fC out k.1)).aU,(x9 (fC out k.1)).spot.x,(x9 (fC out k.1)).spot.y,(x9 (fC out k.1)).what])=λ k:Fin q=>(out.drop (k.1 * 6)).take 6:=by
   funext k
   have aw:=k.2;have cg:=adY (l:=out) (k:=k.1) (by omega);have ef:fC out k.1=(out.drop (k.1 * 6)).take 6:=by unfold fC;congr 1;omega
   rw [← ef];exact aAE cg
  exact aVA (λ f=>(List.finRange q).flatMap f) bl
 rw [e];exact adZ 6 q out h
theorem aBJ {l:List aO} (h:∀ o∈l,o.ok):sO (nums l):=by
 intro x hx;obtain ⟨o,b5,hx⟩:=aYg.1 hx;obtain ⟨Gn,pa,l4,nP,ov,qc⟩:=h o b5;simp only [aUD,aVI,aWr] at hx;rcases hx with rfl | rfl | rfl | rfl | rfl | rfl
 ·exact bN.1 Gn
 ·exact bN.1 pa
 ·exact bN.1 l4
 ·exact bN.1 nP
 ·exact bN.1 ov
 ·exact bN.1 qc
theorem Zc {l m:List aO} {k:Int} (h:iu l=0) (dS:∀ o∈l,o.ok) (hR:CJ (jM l) m k):k=0∧m=l:=by
 have hw:=TD h;have hn:=Sk l;have xH:=(NG h).1;have b5:kF.l5 (jM l)=(Pack.strOf (Pack.q3 (nums l)),0):=by rw [hw];exact kF.aB4 _
 have I:(nums l).length=l.length * 6:=by omega
 have hf:Gr (nums l)=l:=by
  rw [Jc I];exact ako (akp I)
 rcases hR with ⟨γ,_⟩ | ⟨_,out,j,bD,aa⟩
 ·rw [b5] at γ;exact absurd Z γ
 ·rw [b5] at bD;obtain ⟨aA,rfl⟩:=Pack.avP (aBJ dS) (by omega) bD;rcases aa with ⟨av,_⟩ | ⟨_,av,_⟩ | ⟨_,_,⟨av,_⟩ | ⟨av,aV,bJ⟩⟩
  ·exact absurd aA av
  ·omega
  ·rw [hf] at av;exact absurd h av
  ·exact ⟨bJ,by rw [aV,hf]⟩
theorem aDy {s:ByteArray} {m:List aO} {k:Int} (hR:CJ s m k):(k=0→iu m=0∧jM m=s)∧(k≠0→m= []):=by
 rcases hR with ⟨γ,aa,av⟩ | ⟨γ,out,j,bD,aa⟩
 ·exact ⟨λ h=>absurd (av ▸ h) γ,λ _=>aa⟩
 ·rcases aa with ⟨av,aV,bJ⟩ | ⟨_,av,aV,bJ⟩ | ⟨aA,cg,⟨av,aV,bJ⟩ | ⟨av,aV,bJ⟩⟩
  ·exact ⟨λ h=>absurd (bJ ▸ h) av,λ _=>aV⟩
  ·exact ⟨λ h=>by omega,λ _=>aV⟩
  ·exact ⟨λ h=>absurd (bJ ▸ h) av,λ _=>aV⟩
  ·refine ⟨λ _=> ?_,λ h=>absurd bJ h⟩;subst aV;refine ⟨av, ?_⟩;have I:out.length=(out.length / 6) * 6:=by omega
   rw [TD av,Jc I,akp I,← (bD.2.1 aA).1];rcases kF.akE s with ⟨_,ef⟩ | ⟨ef,_⟩
   ·exact ef
   ·omega
theorem ane (l:List aO):(jM l).size≤140737488351232:=by
 by_cases h:iu l=0
 ·have γ:=(NG h).1;have aa:=Sk l;have av:=Pack.ak2 (nums l);rw [TD h,kF.SK,Pack.Ju];omega
 ·rw [anc h];decide
def aP1:List aO:= [⟨1,2,7,⟨2, -1⟩,0⟩]
theorem auX (A B:Option Addr) (c d hX dW:Nat) (l m:List aO) (w:World) (γ:aO.rep.aK hX w A c l) (aa:aO.rep.aK dW w B d m):
  Calls prog 19 #[.slice A l.length c, .slice B m.length d] w (λ e w'=>e= .returned (.bool (decide (l=m)))∧Ext w w'):=by
 have hle:=γ.dT;refine cl (n:=26) func19 Z Z Z ?_;refine ai<|va Z<|ag<|az<|ai<|vm Z<|J (cj underlying44 Z)<|vm Z<|J (cj underlying44 Z)<|J (bne Z Z)<|ag<| ?_;refine eU Z (λ j'=> ?_) (λ j'=> ?_)
 ·refine ai<|va Z<|ag<|rt<|bT<|bb (.tmp Z .nil)<| ?_;rw [aUU (λ e=>j' (by rw [e]))];exact ⟨Z,(Ext.bK w)⟩
 ·refine bt<|az<|ai<|vm Z<|J (cj underlying44 Z)<|vm Z<|ag<|bA<| ?_;refine dX (λ b4 b2 aG=>∃ k:Nat,b2= [(0, .slice A l.length c),(1, .slice B m.length d),(12, .int .i64 (l.length:Int)),(13, .int .i64 (k:Int))]∧b4=l.length - k∧Ext w aG∧(k≤l.length)∧(∀ j,j<k→l[j]? =m[j]?)) _ _ ⟨0,Z,Z,(Ext.bK w),by omega,λ j aA=>absurd aA (by omega)⟩ (.cons Z (.cons Z (.cons Z (.cons (bO Z) .nil)))) ?_;rintro Ns Km ku ⟨k,rfl,rfl,di,aw,gv⟩;have:=di.size;have hle:=γ.dT;have XL:=aa.dT;refine ai<|J (blt Z Z)<|ag<|az<| ?_;refine dw Z (λ mT=> ?_) (λ mT=> ?_)
  ·obtain ⟨eH,ka⟩:=hC (l:=l) (i:=k) (by omega);obtain ⟨vk,uN⟩:=hC (l:=m) (i:=k) (by omega);refine bt<|az<|bA<|ai<|vm Z<|va Z<|ag<|az<| ?_;refine rd [(3,0),(7,0)] [0,1,2,3,4,5,6,7,8] (by kernel_rfl) (by kernel_rfl) ?_;refine ar Z (λ _=>aM Z)<|ar Z (λ _=>aM Z)<|ar Z (λ _=>bY k underlying44 eI Z Z ((γ.keep di).bu (aX k)) Z (by omega))<|bG Z (λ _ x=>ak Z (κ.aK.hb Dg ((γ.keep (τ di x)).cr (aX k)) ka iM eI))<|ar Z (λ _=>aM Z)<|ar Z (λ _=>aM Z)<|ar Z (λ _=>bY k underlying44 eI Z Z ((aa.keep di).bu (aX k)) Z (by omega))<|bG Z (λ _ x=>ak Z (κ.aK.hb Dg ((aa.keep (τ di x)).cr (aX k)) uN iM eI))<|ar Z (λ _=>PZ ao9 ao8 (p:=eH) (q:=vk) Z Z)<|fn λ Ei nZ=> ?_;have:=nZ.size;have lv:=τ di nZ;refine aT<| ?_;refine ee Z (λ je=> ?_) (λ je=> ?_)
   ·refine ai<|va Z<|ag<|rt<|eK<|bT<|my<|eK<|bT<|bb (.tmp Z .nil)<| ?_;rw [aUU (λ e=>by rw [e,uN] at ka;injection ka with ka;exact absurd ka.symm (by first | exact YZ je | exact je))];exact ⟨Z,lv⟩
   ·refine fv<|bX<|aT<|rg<|J (bad Z Z (bH (by omega)))<|vm Z<|nl<| ?_;exact cO _ _ ⟨k+1,Z,Z,lv,by omega,th gv (by rw [ka,uN,(by first | exact V9 je | exact je:eH=vk)])⟩ (by omega) (.cons Z (.cons Z (.cons Z (.cons (bO Z) .nil))))
  ·refine c_<|c9<|dn<|c8<|aT<|ai<|va Z<|ag<|rt<|bb (.tmp Z .nil)<| ?_;rw [aUL (V8 (by omega) (by omega) gv)];exact ⟨Z,di⟩
end
section
theorem aw0 {w:World} {cs:List Value} {a:ByteArray} (h:Gv.has w cs a):cs= [.string a]:=aWw (show cs= [.string a]∧a.size≤140737488351232 from h)
end
end Go.Proofs.YtlikikpgmmkjbaaGreat
namespace Go.Proofs.YtlikikpgmmkjbaaGreat.Tree
open Tryz
open Go.RowKit Go.Proofs.YtlikikpgmmkjbaaGreat Go.Proofs.YtlikikpgmmkjbaaGreat.fj Go.Proofs.YtlikikpgmmkjbaaGreat.Mark
def H' (k:Nat):Nat→List (List UInt8)→List c7
 | 0,_=> []
 | e+1,l=>if k.testBit e then SD (l.take (2 ^ e))::H' k e (l.drop (2 ^ e)) else H' k e l
def P' (l:List c7):List Value:=l.map fun x=>Value.int .u64 (U x)
def GW (_:Nat) (u:Value):Prop:=∃ n:Int,u= .int .u64 n
def aJf (k:Nat) (l:List ByteArray) (w:World) (e:Ending) (w':World):Prop :=
 ∃ A c,e= .returned (.tuple #[.slice A (H' k 9 (lists l)).length c, .int .i64 0])∧Own w' w.heap.size 41 1 GW (.slice A (H' k 9 (lists l)).length c) (H' k 9 (lists l)).length (P' (H' k 9 (lists l)))∧Below w.heap.size w w'
end Go.Proofs.YtlikikpgmmkjbaaGreat.Tree
namespace Go.Proofs.YtlikikpgmmkjbaaGreat
open Tryz
end Go.Proofs.YtlikikpgmmkjbaaGreat
namespace Go.Proofs.YtlikikpgmmkjbaaGreat.Tree
open Tryz
open Go.RowKit Go.Proofs.YtlikikpgmmkjbaaGreat Go.Proofs.YtlikikpgmmkjbaaGreat.fj Go.Proofs.YtlikikpgmmkjbaaGreat.Mark
def azS:List c7→c7
 | []=>0#64
 | x::r=>match r with
  | []=>x
  | y::t=>Jh x (azS (y::t))
def aJg (w:World) (e:Ending) (w':World):Prop:=∃ (A:Option Addr) (n c:Nat) (k:Int),e= .returned (.tuple #[.slice A n c, .int .i64 k])∧Below w.heap.size w w'
def GS (_:Nat) (u:Value):Prop:=∃ s:ByteArray,u= .string s
def aIo (w:World) (n:Nat) (l:List ByteArray) (e:Ending) (w':World):Prop :=
 ∃ A c,e= .returned (.slice A n c)∧Own w' w.heap.size 9 1 GS (.slice A n c) n (ara l)∧Below w.heap.size w w'
end Go.Proofs.YtlikikpgmmkjbaaGreat.Tree
namespace Go.Proofs.YtlikikpgmmkjbaaGreat
open Tryz
end Go.Proofs.YtlikikpgmmkjbaaGreat
namespace Go.Proofs.YtlikikpgmmkjbaaGreat.Tree
open Tryz
open Go.RowKit Go.Proofs.YtlikikpgmmkjbaaGreat Go.Proofs.YtlikikpgmmkjbaaGreat.fj Go.Proofs.YtlikikpgmmkjbaaGreat.Mark
def HH:Nat→c7→Nat→Nat→List c7→c7×Bool
 | 0,m,_,_,t=>(m,t.isEmpty)
 | f+1,m,at_,n,t =>
  if n=1 then (m,t.isEmpty) else
  match t.getLast? with
  | none=>(0#64,false)
  | some x=>if at_<l6 n then (Jh (HH f m at_ (l6 n) t.dropLast).1 x,(HH f m at_ (l6 n) t.dropLast).2)
   else (Jh x (HH f m (at_ - l6 n) (n - l6 n) t.dropLast).1,(HH f m (at_ - l6 n) (n - l6 n) t.dropLast).2)
def aIn (w:World) (r:c7×Bool) (e:Ending) (w':World):Prop:=e= .returned (.tuple #[.int .u64 (U r.1), .bool r.2])∧w=w'
def ahQ (root:c7) (s:List UInt8) (at_ n:Nat) (t:List c7):Bool:=(HH n (DK s) at_ n t).2 && decide ((HH n (DK s) at_ n t).1=root)
end Go.Proofs.YtlikikpgmmkjbaaGreat.Tree
namespace Go.Proofs.YtlikikpgmmkjbaaGreat
open Tryz
end Go.Proofs.YtlikikpgmmkjbaaGreat
namespace Go.Proofs.YtlikikpgmmkjbaaGreat.Tree
open Tryz
open Go.RowKit Go.Proofs.YtlikikpgmmkjbaaGreat Go.Proofs.YtlikikpgmmkjbaaGreat.fj Go.Proofs.YtlikikpgmmkjbaaGreat.Mark

def SZ:Nat→List (List UInt8)→Nat→List c7
 | 0,_,_=> []
 | f+1,l,at_=>if l.length=1 then [] else
  if at_<l6 l.length then SZ f (l.take (l6 l.length)) at_++ [SD (l.drop (l6 l.length))]
  else SZ f (l.drop (l6 l.length)) (at_ - l6 l.length)++ [SD (l.take (l6 l.length))]
def aJt (w:World) (t:List c7) (e:Ending) (w':World):Prop:=∃ A c,e= .returned (.slice A t.length c)∧Own w' w.heap.size 41 1 GW (.slice A t.length c) t.length (P' t)∧Below w.heap.size w w'
end Go.Proofs.YtlikikpgmmkjbaaGreat.Tree
namespace Go.Proofs.YtlikikpgmmkjbaaGreat
open Tryz
end Go.Proofs.YtlikikpgmmkjbaaGreat
namespace Go.Proofs.YtlikikpgmmkjbaaGreat.Tree
open Tryz
open Go.Proofs.YtlikikpgmmkjbaaGreat.fj Go.Proofs.YtlikikpgmmkjbaaGreat.Mark

def aeU:Nat→Nat→Nat→Nat
 | 0,_,_=>0
 | f+1,at_,n=>if n=1 then 0 else if at_<l6 n then aeU f at_ (l6 n)+1 else aeU f (at_ - l6 n) (n - l6 n)+1
def alN:Nat→Nat→Nat→List Bool
 | 0,_,_=> []
 | f+1,at_,n=>if n=1 then [] else if at_<l6 n then alN f at_ (l6 n)++ [false] else alN f (at_ - l6 n) (n - l6 n)++ [true]
def aEG (m:c7) (x:Bool×c7):c7:=if x.1 then Jh x.2 m else Jh m x.2
def along (sd:List Bool) (t:List c7) (m:c7) (k:Nat):c7:=((sd.zip t).take k).foldl aEG m
end Go.Proofs.YtlikikpgmmkjbaaGreat.Tree
namespace Go.Proofs.YtlikikpgmmkjbaaGreat
open Tryz
end Go.Proofs.YtlikikpgmmkjbaaGreat
namespace Go.Proofs.YtlikikpgmmkjbaaGreat.Tree
open Tryz
open Go.RowKit Go.Proofs.YtlikikpgmmkjbaaGreat Go.Proofs.YtlikikpgmmkjbaaGreat.fj Go.Proofs.YtlikikpgmmkjbaaGreat.Mark

def aJu (w:World) (t:List c7) (e:Ending) (w':World):Prop:=∃ A c,e= .returned (.tuple #[.slice A t.length c, .int .i64 0])∧Own w' w.heap.size 41 1 GW (.slice A t.length c) t.length (P' t)∧Below w.heap.size w w'
def aIp (w:World) (n:Nat) (l:List c7) (e:Ending) (w':World):Prop :=
 ∃ A c,e= .returned (.slice A n c)∧Own w' w.heap.size 41 1 GW (.slice A n c) n (P' l)∧Below w.heap.size w w'
end Go.Proofs.YtlikikpgmmkjbaaGreat.Tree
namespace Go.Proofs.YtlikikpgmmkjbaaGreat
open Tryz
section
open Go.Proofs.YtlikikpgmmkjbaaGreat.fj
def aJs (l:List ByteArray) (n k:Int) (t:List (BitVec 64)):Prop:=(k=0∧0≤n∧n<(l.length:Int)∧t=Tree.SZ l.length (Tree.lists l) n.toNat)∨(k≠0∧¬(0≤n∧n<(l.length:Int))∧t= [])
def aJn (W:aj) (L:List (List aO)) (n e:Int) (r:BitVec 64):Prop :=
 (e=0∧vD W L∧0≤n∧n≤(L.length:Int)∧r=Tree.SD (Tree.lists ((L.take n.toNat).map jM)))∨(e≠0∧¬(vD W L∧0≤n∧n≤(L.length:Int))∧r=0)
def ac3 (W:aj) (L:List (List aO)) (n e:Int) (s:ByteArray) (t:List (BitVec 64)):Prop :=
 (e=0∧vD W L∧0≤n∧n<(L.length:Int)∧s=(L.map jM).getD n.toNat ByteArray.empty∧t=Tree.SZ (L.map jM).length (Tree.lists (L.map jM)) n.toNat)∨(e≠0∧¬(vD W L∧0≤n∧n<(L.length:Int))∧s=HE []∧t= [])
def aJr (r:BitVec 64) (n at_:Int) (s:ByteArray) (t:List (BitVec 64)) (m:List aO) (k:Int) (b:Bool):Prop :=
 (Tree.ahQ r s.data.toList at_.toNat n.toNat t=true∧CJ s m k∧b=(k == 0))∨(Tree.ahQ r s.data.toList at_.toNat n.toNat t=false∧m= []∧b=false∧k=0)
end
section
open Go.Proofs.YtlikikpgmmkjbaaGreat.fj
theorem avG (L:List (List aO)) {i:Nat} (h:i<L.length):(L.map jM).getD i ByteArray.empty=jM (L.getD i []):=by
 rw [aUi,aUi,aUx,aUk h];rfl
theorem ac3.size {W:aj} {L:List (List aO)} {n e:Int} {s:ByteArray} {t:List (BitVec 64)} (h:ac3 W L n e s t):s.size≤140737488351232:=by
 rcases h with ⟨_,_,aI,γ,aa,_⟩ | ⟨_,_,aa,_⟩
 ·rw [aa,avG L (by omega)];exact ane _
 ·rw [aa];decide
def aRv:List (List aO):= [nV, []]
end
section
open Go.Proofs.YtlikikpgmmkjbaaGreat.fj
theorem aCb {w:World} {A:Option Addr} {n c:Nat} (h:(.slice (.slice aO.sh 48) 24:fP).hV w [.slice A n c]):∃ T L,n=(T:List ej).length∧iU.aK 24 w A c T∧n_ w T L:=by
 obtain ⟨bL,b_,L,e,mj⟩:=κ.tv (R:=aO.rep.slice 51 48) (by_:=24) (λ w cs h=>by
  obtain ⟨A,c,l,e,aB⟩:=κ.tv (R:=aO.rep) (by_:=48) aO.opens rfl (by decide) h;exact ⟨l,A,c,e,aB⟩) Z (by decide) h
 simp only [aV7,aXk,and_true] at e;obtain ⟨rfl,rfl,rfl⟩:=e;obtain ⟨s1,s2,Gy,SG,ess,Gz,BI⟩:=mj;have key:∀ (ess:List (List Value)) (L:List (List aO)),de (λ es a=>(aO.rep.slice 51 48).has w es a) ess L→∃ T:List ej,T.length=L.length∧de (λ es a=>iU.has w es a) ess T∧∀ (i:Nat) (v:ej),T[i]? =some v→∃ l:List aO,L[i]? =some l∧v.n=l.length∧aO.rep.aK 48 w v.a v.c l:=by
  intro ess;induction ess with
  | nil =>
   intro L h;cases L with
   | nil=>exact ⟨[],rfl,trivial,λ i v h=>by simp at h⟩
   | cons=>exact h.elim
  | cons es ess bI =>
   intro L h;cases L with
   | nil=>exact h.elim
   | cons l L =>
    obtain ⟨⟨A,c,he,aB⟩,aa⟩:=h;obtain ⟨T,t1,t2,t3⟩:=bI L aa;refine ⟨⟨A,l.length,c⟩::T,by simp [t1],⟨⟨he,trivial⟩,t2⟩,λ i v aq=> ?_⟩;cases i with
    | zero =>
     obtain rfl:=aUh (show some (⟨A,l.length,c⟩:ej)=some v from aq);exact ⟨l,Z,Z,aB⟩
    | succ i=>exact t3 i v aq
 obtain ⟨T,t1,t2,t3⟩:=key ess L Gz;exact ⟨T,L,t1.symm,⟨by rw [t1];exact s1,s2,by rw [t1];exact Gy,SG,ess,t2,by rw [t1];exact BI⟩,t1,t3⟩
end
section
theorem Fe (A:Option Addr) (c:Nat) (l:List aO) (w:World) (h:aO.rep.aK 48 w A c l):
  Calls prog 28 #[.slice A l.length c] w λ e w'=>∃ bL b_,e= .returned (.slice bL l.length b_)∧aO.rep.aD 51 48 w' w.heap.size (κ.ae bL) bL b_ l∧(bL=none↔A=none)∧Below w.heap.size w w':=by
 obtain ⟨i0,aq,o5,qU,qV⟩:=aWR aO.info;have Sx:∀ (w:World) (a:Option Addr) (n c jU b_:Nat),(binOp .eql 44 (.slice a n c) (.slice none jU b_)).run prog w= .ok (.bool a.isNone) w:=λ w a n c jU b_=>aWp w _ _ a n c jU b_ underlying44;cases A with
 | none =>
  obtain rfl:c=0:=h.2.2.2.1 rfl;obtain rfl:l= []:=aUQ (by have:=h.1;omega);go_enter func28,ntmps28;go_wp2_with fail
  go_ret;exact ⟨none,0,Z,κ.aD.nil _,by simp,aUN _ _⟩
 | some a =>
  have cK:Below w.heap.size w (w.alloc (.cells #[] 51)):=(aUN _ w).alloc (aUu _) _;obtain ⟨n,fk⟩:∃ n,Hid (l.length=n):=⟨_,aUl rfl⟩;obtain ⟨γ,aa,av,aV,ess,bJ,cg⟩:=h.keep cK;have yJ:=aUl bJ;have o4:∀ u∈ess.flatten,u.oneCell'=true:=by
   intro u hu;obtain ⟨y,aH,hu⟩:=aVu.1 hu;obtain ⟨a,ha⟩:=bJ.left y aH;exact aO.rep.one ha u hu
  have qT:∀ (j:Nat) u,ess.flatten[j]? =some u→aO.rep.raw (j % aO.rep.size) u:=λ j u hu=>H6 bJ (by decide) hu;rw [fk.out] at γ av cg;have cF:=aUl cg;have jv:=aUl (Own.empty (e:= 51) (size:=aO.rep.size) (G:=aO.rep.raw) w (aUu w.heap.size));clear h aV bJ cg;rw [fk.out];go_enter func28,ntmps28;go_wp2_with (at_builtin;refine JY _ rfl _ _ 44 rfl w.heap.size 51 i0 aO.zero aO.rep.size 48 underlying44 aq o5 qU qV rfl (by decide) aO.rep.raw aO.iY _ _ _ rfl jv.out (some a) n c ess.flatten rfl cF.out o4 qT ?qc4 ?qc5 ?qc6 ?_)
  case qc4=>unfold maxLen;omega
  case qc5=>omega
  case qc6=>simp
  intro v' aP fq jJ mV fU;have cV:=cK.grown jJ (by simp) (by intro k aw;simp [Value.ownBlock] at aw;omega);obtain ⟨cp,c1,rfl,hle,_,_,_,lG⟩:=fq.shape;have kn:cp≠none:=by
   intro h;subst h;exact mV (lG Z)
  have aW:Hid (aO.rep.aD 51 48 aP w.heap.size (κ.ae cp) cp c1 l):=aUl (κ.aD.BE aO.plain yJ.out (by rw [fk.out];exact av) (by rw [fk.out];simpa using fq));have tY:=aUl kn;clear jJ mV fU fq kn lG o4 qT;go_wp2_with fail
  go_ret;exact ⟨cp,c1,Z,aW.out,⟨λ h=>absurd h tY.out,λ h=>by cases h⟩,cV⟩
end
end Go.Proofs.YtlikikpgmmkjbaaGreat
