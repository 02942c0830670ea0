import Derived.Test.YtmeeljmapailnaaGreatCrcSeal
set_option linter.unusedVariables false
set_option linter.unusedSimpArgs false
set_option maxRecDepth 100000
set_option maxHeartbeats 4000000
open Go.RowKit
namespace Go.Proofs.YtmeeljmapailnaaGreat
open Tryz
abbrev aVS:=@List.mem_flatMap
abbrev aWz:=@List.length_finRange
section
theorem ari (A:Option Addr) (len c n:Nat) (w:World) (hn:1≤n):
  Calls prog 85 #[.slice A len c, .int .i64 (n:Int)] w (λ e w'=>∃ f_ gR,e= .returned (.func (.func 122) #[] #[.pointer (some ⟨f_,0,none⟩), .pointer (some ⟨gR,0,none⟩)])∧aP w' f_ [.slice A len c] 22 (0,0)∧aP w' gR [.int .i64 (n:Int)] 3 (0,0)∧w.heap.size≤f_∧f_<gR∧Ext w w'):=by
 refine cl (n:=9) func85 Z Z Z ?_;refine aj<|cA Z Z Z Z λ cC bF a8 ef aa=> ?_;have:=a8.size;have bj:=γ (Ext.bN w) a8;have ei:=aa.lt;refine cA Z Z Z Z λ ew cu bl il ag=> ?_;have:=bl.size;have bO:=γ bj bl;have hW:=ag.lt;refine va Z<|ai<|aA<|aj<|J (ao Z (ag.one bc Z))<|J (blt Z Z)<|ai<| ?_;have iN:(decide ((n:Int)<1))=false:=by rw [aSD];omega
 refine gZ (by rw [← iN];rfl)<|bu<|aj<|J (M_ Z Z)<|va Z<|ai<|rt<|bd (.tmp Z .nil)<| ?_;have aa:=aa.later bl;exact ⟨bF,cu,Z,aa,ag,by omega,by omega,bO⟩
theorem ark (q n len c f_ gR:Nat) (A:Option Addr) (w0:World) (hn:1≤n) (hlen:len=q * n) (aKD:len≤c) (r9:c≤9223372036854775807) (m:Nat) (aaT:aP w0 f_ [.slice A len c] 22 (0,0)) (aaU:aP w0 gR [.int .i64 (n:Int)] 3 (0,0)):
  SeqStopsK (kv none) m prog 122 #[.pointer (some ⟨f_,0,none⟩), .pointer (some ⟨gR,0,none⟩)] (λ k:Fin q=>#[.slice (eW A (k.1 * n+n) (k.1 * n) 1) n n]) (AX f_ gR) (λ xs=>xs=List.finRange q) (λ _=>True) q w0:=by
 intro l jO aHI W Φ avY aKg avz awL;have xa:=aaT.Ru (Φ.block f_ aaT.lt);have yW:=aaU.Ru (Φ.block gR aaU.lt);have zC:E5 W.heap.size jO [] W:=⟨avY,awL⟩;refine Rd.aqV (n:=31) func122 Z Z Z ?_;refine Rd.aA<|Rd.rg<|va Z<|nl<|Rd.aU<|Rd.bL<| ?_;refine Rd.eL (λ cg cf aQ=>∃ k:Nat,cf= [(0, .func (.yield l) #[] #[]),(1, .pointer (some ⟨f_,0,none⟩)),(2, .pointer (some ⟨gR,0,none⟩)),(4, .int .i64 (((k * n:Nat):Int)))]∧cg=q - k∧True∧aP aQ f_ [.slice A len c] 22 (0,0)∧aP aQ gR [.int .i64 (n:Int)] 3 (0,0)∧E5 W.heap.size jO ((List.finRange q).take k) aQ∧(k≤q)) _ _ ⟨0,Z,Z,trivial,xa,yW,(zC:E5 W.heap.size jO [] _),by omega⟩ (.cons Z (.cons Z (.cons Z (.cons (bW Z) .nil)))) ?_;rintro M5 J7 cC ⟨k,rfl,rfl,bj,xa,yW,zC,ar⟩;have aO6:=xa.lt;have aPb:=yW.lt;have hc:=k;refine Rd.aA<|Rd.aA<|Rd.rg<|vm Z<|J (ao Z (xa.one gu Z))<|J (cG underlying22 Z)<|J (blt Z Z)<|nl<|Rd.aU<| ?_;refine Rd.dY Z (λ r0=> ?_) (λ r0=> ?_)
 ·have It:k<q:=Nat.lt_of_mul_lt_mul_right (a:=n) (by omega);have Xl:k * n+n≤q * n:=by rw [← aTx];exact aSI _ It
  refine Rd.fI<|Rd.aU<|Rd.aA<|Rd.bL<|Rd.aA<| ?_;refine Rd.rd [(0,0),(1,0)] [0,1,2,3,4,5,6] (by kernel_rfl) (by kernel_rfl) ?_;refine bJ Z (λ _ x=>ao Z ((yW.later x).one bc Z))<|bJ Z (λ _ x=>ao Z ((xa.later x).one gu Z))<|au Z (λ _=>aK Z)<|au Z (λ _=>aCJ (k * n) underlying22 dx Z Z Z (by omega))<|au Z (λ _=>cG underlying22 Z)<|au Z (λ _=>oF Z Z)<|au Z (λ _=>fF Z)<|fn λ S2 yJ=> ?_;have:=yJ.size;refine Rd.aU<|Rd.aA<|o2.rg<|o2.iT (aK Z) Z<| ?_;have xa:=xa.later yJ;refine o2.iT (ao Z (xa.one gu Z)) Z<|o2.iT (aK Z) Z<|o2.iT (aK Z) Z<|o2.iT (aK Z) Z<|o2.iT (bad Z Z (bD (by omega))) Z<|o2.iT (aK Z) Z<|o2.iT (aK Z) Z<|o2.iT (bad Z Z (bD (by omega))) Z<|o2.iT (aCI (k * n) (k * n+n) n underlying22 dx Z Z Z Z Z (by omega) (by omega) (by omega) (by omega) (by omega)) Z<| ?_;have yW:=yW.later yJ;have zC:=zC.later yJ;refine o2.aFI Z Z Z (aFJ (avz _ (⟨k,It⟩:Fin q) _ zC.at_ (by rw [aRZ,aWz];omega)) ?_);rintro e ank lB;obtain ⟨um,rfl,κ,ab⟩:=aFK lB;refine ⟨_,Z, ?_⟩
  replace κ:um=true→E5 W.heap.size jO ((List.finRange q).take k++ [⟨k,It⟩]) ank∧AX f_ gR _ ank:=λ h=>⟨⟨zC.Up,(κ h).1⟩,(κ h).2⟩
  refine o2.iT (dV Z) Z<|o2.nl<|Rd.aU<| ?_;refine Rd.ed Z (λ Bv=> ?_) (λ Bv=> ?_)
  ·refine Rd.rt<|e_<|Rd.bT<|nZ<|e_<|bd .nil<| ?_;exact ⟨⟨_,Z⟩, .inr ⟨_,trivial,ab (by simpa using Bv)⟩⟩
  ·obtain ⟨avo,iA⟩:=κ (by simpa using Bv);have xa:=xa.Ru iA.1;have yW:=yW.Ru iA.2;refine Rd.fI<|Rd.bY<|Rd.aU<|Rd.rg<|vm Z<|J (ao Z (yW.one bc Z))<|J (bad Z Z (bD (by omega)))<|va Z<|nl<| ?_;exact Rd.c9 _ _ ⟨k+1,Z,Z,trivial,xa,yW,(by rw [← auj It];exact avo),by omega⟩ (by omega) (.cons Z (.cons Z (.cons Z (.cons (wq Z (by rw [aTx];omega)) .nil))))
 ·have It:k=q:=Nat.le_antisymm ar (Nat.le_of_mul_le_mul_right (c:=n) (by omega) hn);refine Rd.dw<|Rd.du<|dN<|Rd.dt<|Rd.ne<|bd .nil<| ?_;exact ⟨⟨_,Z⟩, .inl ⟨_,Z,by have:=zC.at_;rwa [It,aSk (by rw [aWz];omega)] at this⟩⟩
end
section
def aPE:τ UInt8:=τ.flat 1 (λ b=> [.int .u8 (b.toNat:Int)]) (λ _=>True) (λ _ u=>∃ n:Int,u= .int .u8 n) (λ _=>rfl) (by intro a u hu;simp at hu;subst hu;rfl) (by
 intro a j u hu;cases j with
 | zero=>simp at hu;exact ⟨_,hu.symm⟩
 | succ j=>simp at hu)
def HC (l:List UInt8):ByteArray:=⟨l.toArray⟩
section
variable {P:Program} {n:Nat} {E cU:List (Nat×Value)} {w:World} {d:Option Nat} {ty:TypeId} {pos:String} {af:Array Edge} {g:Option (Nat×Bool)} {x y z u:Operand} {t t2:TypeId}
end
end
section
def aC0 (p:Int):UInt8:=([46,35,116,111]:List UInt8).getD p.toNat 0
def aCw (f:aE) (k j:Nat):List UInt8:=(((f.aW.drop (k * f.wide.toNat)).take (k * f.wide.toNat+f.wide.toNat - k * f.wide.toNat)).take j).map aC0
def txt (f:aE) (pre:List (Fin f.high.toNat)):List UInt8:=pre.flatMap λ k=>aCw f k.1 f.wide.toNat++ [10]
theorem arj (A:Option Addr) (len c:Nat) (i:Int) (w:World) (aq:1≤i):Calls prog 85 #[.slice A len c, .int .i64 i] w (λ e w'=>∃ f_ gR,e= .returned (.func (.func 122) #[] #[.pointer (some ⟨f_,0,none⟩), .pointer (some ⟨gR,0,none⟩)])∧aP w' f_ [.slice A len c] 22 (0,0)∧aP w' gR [.int .i64 (i.toNat:Int)] 3 (0,0)∧w.heap.size≤f_∧f_<gR∧Ext w w'):=by
 have e:i=(i.toNat:Int):=by omega
 have:=ari A len c i.toNat w (by omega);rw [← e] at this;rw [← e];exact this
def aJM (f:aE):ByteArray:=if f.bm≠0 then HC [] else HC (txt f (List.finRange f.high.toNat))
end
section
theorem apa:eX prog bQ 22 3 8:=eX.lV (z:= .int .i64 0) (k:=1) underlying22 DQ rfl rfl (by decide) (λ j u h=>Jc j u h)
theorem ao9:eX prog aL.rep 48 69 48:=eX.lV (z:=aL.zero) (k:=6) underlying48 aL.info rfl rfl (by decide) aL.jq
def nums (l:List aL):List Int:=l.flatMap λ o=> [o.by_,o.kind,o.aR,o.spot.x,o.spot.y,o.what]
theorem RV:∀ l:List aL,(nums l).length=6 * l.length
 | []=>rfl
 | o::l=>by unfold nums;rw [aTu,aR1,aR0];have:=RV l;unfold nums at this;rw [this];simp;omega
theorem aAC {l:List aL} {k:Nat} (h:k<l.length):nums (l.take (k+1))=nums (l.take k)++ [(l.getD k default).by_,(l.getD k default).kind,(l.getD k default).aR,(l.getD k default).spot.x,(l.getD k default).spot.y,(l.getD k default).what]:=by
 unfold nums;rw [z_ (d:=default) h,aTj];simp
def jl (l:List aL):ByteArray:=if iB l≠0 then HC [] else kW.wL (Pack.strOf (Pack.rb (nums l)))
theorem anb {l:List aL} (h:¬ iB l=0):jl l=HC []:=by unfold jl;rw [aR8 h]
theorem Te {l:List aL} (h:iB l=0):jl l=kW.wL (Pack.strOf (Pack.rb (nums l))):=by unfold jl;rw [aR5 (by simpa using h)]
theorem Pack.akX (l:List Int):(Pack.rb l).length≤10+10 * l.length:=by
 unfold Pack.rb;rw [aR1];have:=(Pack.B_ l.length).1;have:=Pack.XX l;omega
theorem aCm {w:World} {A:Option Addr} {c:Nat} {l:List Int} (h:bQ.aJ 8 w A c l):Rd w 1 A l.length (vJ l):=by
 obtain ⟨s1,s2,Nv,als,ess,Nw,Gz⟩:=h;rw [VJ Nw] at Gz;exact Gz
theorem ayh {w:World} {A:Option Addr} {c:Nat} {l:List Int} (h:bQ.aJ 8 w A c l):sW l:=λ x hx=>bM.1 (Jd h x hx)
theorem aBR (l:List Int) (A:Option Addr) (c:Nat) (w:World) (hn:l.length≤1000) (h:bQ.aJ 8 w A c l):Calls prog 123 #[.slice A l.length c] w λ e w'=>e= .returned (.tuple #[.string (Pack.strOf (Pack.rb l)), .int .i64 0])∧Ext w w' :=
 Pack.akW A l.length c l rfl hn (ayh h) w (aCm h)
theorem afH {s:List UInt8} {out:List Int} {j:Int} (h:Pack.AK s out j):out.length≤1000:=by
 obtain ⟨_,κ,ab⟩:=h;by_cases e:j=0
 ·exact (κ e).2
 ·rw [(ab e).1];exact aSM _
theorem aA7 {w:World} {B n c:Nat} {A:Option Addr} {l:List Int} (h:Own w B 3 1 OP (.slice A n c) l.length (vJ l)) (ay:l.length≤1000) (Qy:sW l):n=l.length∧bQ.aF 3 8 w B (τ.ah A) A c l:=by
 have hn:n=l.length:=by
  rcases h.2 with ⟨κ,ab⟩ | ⟨g,cap,cur,hv,_⟩
  ·injection κ with _ e _;rw [e,ab]
  ·injection hv
 subst hn;refine ⟨Z,τ.aF.B6 (ess:=l.map λ a=> [Value.int .i64 a]) alj (Uq λ a ha=>bM.2 (Qy a ha)) (by omega) ?_⟩;have qY:(l.map λ a=> [Value.int .i64 a]).flatten=l.map (Value.int .i64):=VJ (w:=w) (Uq λ a ha=>bM.2 (Qy a ha));rw [qY];exact h
theorem au2 (s:ByteArray) (hs:s.size≤9223372036854775807) (w:World):Calls prog 84 #[.string s] w (λ e w'=>∃ out k A c,Pack.AK s.data.toList out k∧e= .returned (.tuple #[.slice A out.length c, .int .i64 k])∧bQ.aF 3 8 w' w.heap.size (τ.ah A) A c out∧Ext w w'):=by
 refine (Pack.au1 s hs w).mono λ e w' he=> ?_;obtain ⟨out,k,A,n,c,κ,ab,aw,a6⟩:=he;obtain ⟨rfl,bH⟩:=aA7 aw (afH κ) κ.1;exact ⟨out,k,A,c,κ,ab,bH,a6⟩
theorem aAW {s:ByteArray} (h:s.size≤140737488351232):(kW.mq s).1.size≤9223372036854775807:=by
 rcases kW.aky s with ⟨_,ab⟩ | ⟨_,ab⟩
 ·have:=aTc ByteArray.size ab;rw [kW.Sn] at this;omega
 ·rw [ab];decide
def fz (l:List Int) (k:Nat):List Int:=(l.drop (k * 6)).take (k * 6+6 - k * 6)
theorem adw {l:List Int} {k:Nat} (h:k * 6+6≤l.length):(fz l k).length=6:=by unfold fz;rw [aRZ,aSf];omega
theorem arl {l:List Int} (h:∀ a∈l,fQ a) (k i:Nat):fQ ((fz l k).getD i 0):=by
 by_cases aq:i<(fz l k).length
 ·exact h _ (aVj (aT8 (jC (d:=0) aq)))
 ·rw [aRU,aTl (by omega)];exact bM.2 (by decide)
def yj (n:List Int):aL:=⟨n.getD 0 0,n.getD 1 0,n.getD 2 0,⟨n.getD 3 0,n.getD 4 0⟩,n.getD 5 0⟩
def I4 (out:List Int) (q:Nat):List aL:=(List.finRange q).map λ k=>yj (fz out k.1)
def Gu (out:List Int):List aL:=I4 out (out.length / 6)
theorem I3 {out:List Int} {q:Nat} (h:out.length=q * 6):Gu out=I4 out q:=by unfold Gu;rw [show out.length / 6=q by omega]
def C1 (s:ByteArray) (m:List aL) (k:Int):Prop :=
 ((kW.mq s).2≠0∧m= []∧k=(kW.mq s).2)∨((kW.mq s).2=0∧∃ out j,Pack.AK (kW.mq s).1.data.toList out j∧((j≠0∧m= []∧k=j)∨(j=0∧out.length % 6≠0∧m= []∧k=4)∨
  (j=0∧out.length % 6=0∧((iB (Gu out)≠0∧m= []∧k=iB (Gu out))∨(iB (Gu out)=0∧m=Gu out∧k=0)))))
theorem aA9 (A:Option Addr) (c:Nat) (l:List aL) (w:World) (ay:aL.rep.aJ 48 w A c l):
  Calls prog 98 #[.slice A l.length c] w (λ e w'=>e= .returned (.tuple #[.string (jl l), .int .i64 (iB l)])∧Ext w w'):=by
 have oA:=ay.eE;refine cl (n:=49) func98 Z Z Z ?_;refine aj<|va Z<|va Z<|ai<|aA<|aj<|vm Z<|ca Vo Z Z ((YG _ _ l _ (ay.keep (Ext.bN w))).mono ?_);rintro e cC ⟨rfl,fc⟩;refine ⟨_,Z, ?_⟩;have:=fc.size;have bj:=γ (Ext.bN w) fc;refine va Z<|ai<|aj<|vm Z<|J (bne Z Z)<|ai<| ?_;refine eV Z (λ wb=> ?_) (λ wb=> ?_)
 ·refine aj<|vm Z<|va Z<|va Z<|ai<|rt<|bT<|bd (.tmp Z (.tmp Z .nil))<| ?_;exact ⟨by rw [anb wb];rfl,bj⟩
 ·obtain ⟨awV,_⟩:=Nk (by simpa using wb);refine bu<|aj<|va Z<|ai<|aA<|aj<|vm Z<|J (cG underlying48 Z)<|vm Z<|ai<|bL<| ?_;refine eL (λ cg cf aQ=>∃ k:Nat,∃ Oy:Option Addr,∃ UZ:Nat,cf= [(2, .string (HC [])),(3, .int .i64 0),(5, .slice Oy ((nums (l.take k)).length) UZ),(15, .slice A l.length c),(16, .int .i64 (l.length:Int)),(17, .int .i64 (k:Int))]∧cg=l.length - k∧Ext w aQ∧bQ.aF 3 8 aQ w.heap.size (τ.ah Oy) Oy UZ (nums (l.take k))∧(k≤l.length)) _ _ ⟨0,none,0,Z,Z,bj,(τ.aF.nil _),by omega⟩ (.cons Z (.cons Z (.cons Z (.cons Z (.cons Z (.cons (bW Z) .nil)))))) ?_;rintro aNq aHy aE9 ⟨k,Oy,UZ,rfl,rfl,G4,y7,ar⟩;have:=G4.size;have amy:=λ q I=>(y7.lt q I).2;have ahb:=RV (l.take k);have Ml:(l.take k).length=k:=by rw [aRZ];omega
  refine aj<|J (blt Z Z)<|ai<|aA<| ?_;refine dY Z (λ Bv=> ?_) (λ Bv=> ?_)
  ·have BG:=aL.nF ay _ (jC (d:=default) (show k<l.length by omega));refine bu<|aA<|bL<|aj<|J (b9 k underlying48 fN Z Z ((ay.keep G4).bP (bb k)) Z (by omega))<|J (ao Z (τ.aJ.ik LN ((ay.keep G4).cw (bb k)) (c8 (l:=l) (u:=default) (by omega)) jW fN))<|al Z P2 Z Z λ wP zh dv MQ ib=> ?_;have:=dv.size;have kU:=γ G4 dv;have R6:=ib.lt;refine st (new:= [.int .i64 ((l.getD k default).by_), .int .i64 ((l.getD k default).kind), .int .i64 ((l.getD k default).aR), .int .i64 ((l.getD k default).spot.x), .int .i64 ((l.getD k default).spot.y), .int .i64 ((l.getD k default).what)]) Z Z ib Z fN Z Z Z λ u' q5 ib=> ?_;have:=q5.size;have hE:=Ext.mod kU q5 bt;refine ai<|rg<|vm Z<|J (av uz Z)<|J (ao Z (ib.one bc Z))<|J (av p1 Z)<|J (ao Z (ib.one bc Z))<|J (av Df Z)<|J (ao Z (ib.one bc Z))<|J (av Dg Z)<|J (av je Z)<|J (ao Z (ib.one bc Z))<|J (av Dg Z)<|J (av jf Z)<|J (ao Z (ib.one bc Z))<|J (av Dh Z)<|J (ao Z (ib.one bc Z))<|cX (e:= 3) (cs:= [.int .i64 ((l.getD k default).by_), .int .i64 ((l.getD k default).kind), .int .i64 ((l.getD k default).aR), .int .i64 ((l.getD k default).spot.x), .int .i64 ((l.getD k default).spot.y), .int .i64 ((l.getD k default).what)]) Z (λ _=>by kernel_rfl) Z λ n2 HB dO X9 pJ=> ?_;have:=dO.size;have fC:=γ hE dO;have Np:=pJ.lt;have y7:=y7.later dv;have y7:=y7.mod q5 (bI amy);have y7:=y7.later dO;refine ap apa τ.dI y7 (aP.LI (R:=bQ) (by_:=8) (k:= [(l.getD k default).by_,(l.getD k default).kind,(l.getD k default).aR,(l.getD k default).spot.x,(l.getD k default).spot.y,(l.getD k default).what]) pJ [[.int .i64 ((l.getD k default).by_)], [.int .i64 ((l.getD k default).kind)], [.int .i64 ((l.getD k default).aR)], [.int .i64 ((l.getD k default).spot.x)], [.int .i64 ((l.getD k default).spot.y)], [.int .i64 ((l.getD k default).what)]] Z (⟨⟨Z,(BG.1)⟩,⟨⟨Z,(BG.2.1)⟩,⟨⟨Z,(BG.2.2.1)⟩,⟨⟨Z,(BG.2.2.2.1)⟩,⟨⟨Z,(BG.2.2.2.2.1)⟩,⟨⟨Z,(BG.2.2.2.2.2)⟩,trivial⟩⟩⟩⟩⟩⟩) (by simp) (by simp)) Z Z (by simp only [aR0,aR6];omega) (by simp only [aR0,aR6];omega) fC.size Z λ tN anU aqK gT O5 aJ3 aNW=> ?_;have:=gT.size;have ia:=Ext.mod fC gT (λ q I=>(y7.lt q I).1);have Ej:=λ q I=>(O5.lt q I).2;have:=gT.size;refine va Z<|nl<|bY<|aU<|rg<|J (bad Z Z (bD (by omega)))<|vm Z<|nl<| ?_;have aZ:nums (l.take (k+1))=nums (l.take k)++ [(l.getD k default).by_,(l.getD k default).kind,(l.getD k default).aR,(l.getD k default).spot.x,(l.getD k default).spot.y,(l.getD k default).what]:=aAC (by omega);exact c9 _ _ ⟨k+1,anU,aqK,Z,Z,ia,(by rw [aZ];exact O5),by omega⟩ (by omega) (.cons Z (.cons Z (.cons (by rw [aZ];rfl) (.cons Z (.cons Z (.cons (bW Z) .nil))))))
  ·refine dw<|du<|dN<|dt<|aU<|aj<|vm Z<|ca aeK Z Z ((aBR (nums (l.take k)) _ _ _ (by omega) y7.has).mono ?_);rintro e wQ ⟨rfl,eP⟩;refine ⟨_,Z, ?_⟩;have:=eP.size;have mC:=γ G4 eP;refine vm Z<|J (ex Z Z)<|J (ex Z Z)<|va Z<|va Z<|ai<|aA<|aj<|vm Z<|J (bne Z Z)<|ai<|gZ Z<|bu<|aj<|vm Z<|ca ati Z Z ((kW.Zp _ (by rw [Pack.Jh];have:=Pack.akX (nums (l.take k));omega) _).mono ?_);rintro e NT ⟨rfl,Ap⟩;refine ⟨_,Z, ?_⟩;have:=Ap.size;have yN:=γ mC Ap;refine va Z<|va Z<|ai<|rt<|bd (.tmp Z (.tmp Z .nil))<| ?_;have k3:k=l.length:=by omega
   subst k3;exact ⟨by rw [Te (by simpa using wb),show iB l=0 by simpa using wb,aSv];rfl,yN⟩
theorem aA2 (s:ByteArray) (w:World) (hs:s.size≤140737488351232):
  Calls prog 44 #[.string s] w (λ e w'=>∃ m k A c,C1 s m k∧e= .returned (.tuple #[.slice A m.length c, .int .i64 k])∧aL.rep.aF 69 48 w' w.heap.size (τ.ah A) A c m∧Ext w w'):=by
 refine Rd.cl (m:=5) (n:=61) func44 Z Z Z ?_;refine Rd.aA<|Rd.rg<|va Z<|va Z<|nl<|Rd.aU<|Rd.aA<|Rd.rg<|vm Z<|ca atj Z Z ((kW.aAU s (by omega) _).mono ?_);rintro e cC ⟨rfl,fc⟩;refine ⟨_,Z, ?_⟩;have:=fc.size;have bj:=γ (Ext.bN w) fc;refine vm Z<|J (ex Z Z)<|J (ex Z Z)<|va Z<|va Z<|nl<|Rd.aU<|Rd.aA<|Rd.aA<|Rd.rg<|vm Z<|J (bne Z Z)<|nl<|Rd.aU<| ?_;refine Rd.eV Z (λ wb=> ?_) (λ wb=> ?_)
 ·refine Rd.aA<|Rd.rg<|vm Z<|va Z<|va Z<|nl<|Rd.aU<|Rd.rt<|Rd.bT<|Rd.bd (.tmp Z (.tmp Z .nil))<| ?_;exact ⟨[],_,none,0, .inl ⟨by simpa using wb,rfl,rfl⟩,Z,τ.aF.nil _,bj⟩
 ·refine Rd.fI<|Rd.aU<|Rd.aA<|Rd.rg<|vm Z<|ca atk Z Z ((au2 ((kW.mq s).1) (aAW (by omega)) _).mono ?_);rintro e ew ⟨out,j,Ow,adf,Ll,rfl,dj,cz⟩;refine ⟨_,Z, ?_⟩;have:=cz.size;have bO:=γ bj cz;have SJ:=λ q I=>(dj.lt q I).2;have Yj:=λ q I=>(dj.lt q I).1;have agN:=afH Ll;refine vm Z<|J (ex Z Z)<|J (ex Z Z)<|va Z<|va Z<|nl<|Rd.aU<|Rd.aA<|Rd.aA<|Rd.rg<|vm Z<|J (bne Z Z)<|nl<|Rd.aU<| ?_;refine Rd.eV Z (λ jx=> ?_) (λ jx=> ?_)
  ·refine Rd.aA<|Rd.rg<|vm Z<|va Z<|va Z<|nl<|Rd.aU<|Rd.rt<|Rd.bT<|Rd.bd (.tmp Z (.tmp Z .nil))<| ?_;exact ⟨[],_,none,0, .inr ⟨by simpa using wb,out,j,Ll, .inl ⟨by simpa using jx,rfl,rfl⟩⟩,Z,τ.aF.nil _,bO⟩
  ·have aKr:out.length≤1000:=agN;refine Rd.fI<|Rd.aU<|Rd.aA<|Rd.aA<|Rd.rg<|vm Z<|J (cG underlying22 Z)<|J (aqi Z Z (by omega) (by omega))<|J (bne Z Z)<|nl<|Rd.aU<| ?_;refine Rd.eV Z (λ qV=> ?_) (λ qV=> ?_)
   ·refine Rd.aA<|Rd.rg<|va Z<|va Z<|nl<|Rd.aU<|Rd.rt<|Rd.bT<|Rd.bd (.tmp Z (.tmp Z .nil))<| ?_;exact ⟨[],_,none,0, .inr ⟨by simpa using wb,out,j,Ll, .inr (.inl ⟨by simpa using jx,by omega,rfl,rfl⟩)⟩,Z,τ.aF.nil _,bO⟩
   ·obtain ⟨q,Mc⟩:∃ q,out.length=q * 6:=⟨out.length / 6,by omega⟩;refine Rd.fI<|Rd.aU<|Rd.aA<|Rd.rg<|al Z atl Z Z λ Aj Pl qx ay9 OC=> ?_;have:=qx.size;have jn:=γ bO qx;have ak2:=OC.lt;refine nl<|Rd.aU<|Rd.aA<|Rd.aA<|Rd.rg<|vm Z<|ca atm Z Z ((arj _ _ _ 6 _ (by omega)).mono ?_);rintro e Ak ⟨f_,gR,rfl,abn,abo,kc,F',hM⟩;refine ⟨_,Z, ?_⟩;have:=hM.size;have nu:=γ jn hM;have nj:=abn.lt;have yo:=abo.lt;refine nl<|Rd.aU<|Rd.bL<| ?_;have OC:=OC.later hM;have dj:=dj.later (γ qx hM);refine Rd.bN (enc:=(λ k:Fin q=> .slice (eW Ow (k.1 * 6+6) (k.1 * 6) 1) 6 6)) Z atn (ark q 6 out.length adf f_ gR Ow _ (by omega) Mc dj.has.1 dj.has.2.1 _ abn abo) (by omega) (by omega) (Ext.bN _) (by decide) Z Z (λ pre W=>∃ kp:Option Addr,∃ co:Nat,aP W Pl [.slice kp (((pre.map λ k=>yj (fz out k.1))).length) co] 48 (0,0)∧aL.rep.aF 69 48 W Ak.heap.size (τ.ah kp) kp co ((pre.map λ k=>yj (fz out k.1)))∧bQ.aF 3 8 W cC.heap.size (τ.ah Ow) Ow adf (out)∧Mod [Pl] Ak W) (by rintro aPH aH5 aH6 aHY ⟨kp,co,nv,fh,dj,aFQ⟩ RG Ia;exact ⟨kp,co,nv.mod RG (λ I=>(Ia _ I).2 _ _ _ nv),fh.mod RG (λ q I hs=>by obtain ⟨_,_,_,hc⟩:=fh.PH q I;exact (Ia q hs).2 _ _ _ hc),dj.mod RG (λ q I hs=>by obtain ⟨_,_,_,hc⟩:=dj.PH q I;exact (Ia q hs).2 _ _ _ hc),aFQ.md RG (λ q I=> .inr (Ia q I).1)⟩) ⟨none,0,OC,τ.aF.nil _,dj,Mod.bN _ _⟩ ?_ ?_
    ·intro aL5 pre eb amJ Wn aw2;obtain ⟨kp,co,nv,fh,dj,aal⟩:=Wn;have zH:∀ q∈ [Pl],w.heap.size≤q:=λ q I=>by rw [aRT.1 I];omega
     have xM:y3 Ak.heap.size amJ amJ:=y3.bN _ _;have:=aal.size;have aB0:=nv.lt;have ZT:=λ q I=>(fh.lt q I).2;have MU:=λ q I=>(fh.lt q I).1;have pC:=λ q I=>(dj.lt q I).2;have nP:=λ q I=>(dj.lt q I).1;have hx:=eb.2;have BJ:eb.1 * 6+6≤q * 6:=by omega
     have aLa:pre.length<q:=aw2;have r8:=adw (l:=out) (k:=eb.1) (by omega);have Iw:=λ i=>arl (Jd dj.has) eb.1 i;have oB:((pre.map λ k=>yj (fz out k.1))).length=pre.length:=aSK _;refine Rd.bL<| ?_;refine Rd.rd [(0,0),(3,0),(6,0),(9,0),(12,0),(15,0),(19,0),(21,2),(22,3),(23,3)] [0,1,2,3,4,5,6,7,8,9,10,11,12,13,14,15,16,17,18,19,20,21,22,23] (by kernel_rfl) (by kernel_rfl) ?_;refine bJ Z (λ _ x=>ao Z ((nv.later x).one o6 Z))<|au Z (λ _=>aK Z)<|au Z (λ _=>b9 0 underlying22 dx Z Z ((dj.has.chunk (eb.1 * 6) (eb.1 * 6+6) (by omega) (by omega)).bP (bb 0 (by first | (rw [aRZ,aSf];omega) | omega))) Z (by omega))<|bJ Z (λ _ x=>ao Z (τ.aJ.fR gw (((dj.later x).has.chunk (eb.1 * 6) (eb.1 * 6+6) (by omega) (by omega)).cw (bb 0 (by first | (rw [aRZ,aSf];omega) | omega))) (c8 (l:=fz out eb.1) (u:=0) (by first | (rw [aRZ,aSf];omega) | omega)) Z bc))<|au Z (λ _=>aK Z)<|au Z (λ _=>b9 1 underlying22 dx Z Z ((dj.has.chunk (eb.1 * 6) (eb.1 * 6+6) (by omega) (by omega)).bP (bb 1 (by first | (rw [aRZ,aSf];omega) | omega))) Z (by omega))<|bJ Z (λ _ x=>ao Z (τ.aJ.fR gw (((dj.later x).has.chunk (eb.1 * 6) (eb.1 * 6+6) (by omega) (by omega)).cw (bb 1 (by first | (rw [aRZ,aSf];omega) | omega))) (c8 (l:=fz out eb.1) (u:=0) (by first | (rw [aRZ,aSf];omega) | omega)) Z bc))<|au Z (λ _=>aK Z)<|au Z (λ _=>b9 2 underlying22 dx Z Z ((dj.has.chunk (eb.1 * 6) (eb.1 * 6+6) (by omega) (by omega)).bP (bb 2 (by first | (rw [aRZ,aSf];omega) | omega))) Z (by omega))<|bJ Z (λ _ x=>ao Z (τ.aJ.fR gw (((dj.later x).has.chunk (eb.1 * 6) (eb.1 * 6+6) (by omega) (by omega)).cw (bb 2 (by first | (rw [aRZ,aSf];omega) | omega))) (c8 (l:=fz out eb.1) (u:=0) (by first | (rw [aRZ,aSf];omega) | omega)) Z bc))<|au Z (λ _=>aK Z)<|au Z (λ _=>b9 3 underlying22 dx Z Z ((dj.has.chunk (eb.1 * 6) (eb.1 * 6+6) (by omega) (by omega)).bP (bb 3 (by first | (rw [aRZ,aSf];omega) | omega))) Z (by omega))<|bJ Z (λ _ x=>ao Z (τ.aJ.fR gw (((dj.later x).has.chunk (eb.1 * 6) (eb.1 * 6+6) (by omega) (by omega)).cw (bb 3 (by first | (rw [aRZ,aSf];omega) | omega))) (c8 (l:=fz out eb.1) (u:=0) (by first | (rw [aRZ,aSf];omega) | omega)) Z bc))<|au Z (λ _=>aK Z)<|au Z (λ _=>b9 4 underlying22 dx Z Z ((dj.has.chunk (eb.1 * 6) (eb.1 * 6+6) (by omega) (by omega)).bP (bb 4 (by first | (rw [aRZ,aSf];omega) | omega))) Z (by omega))<|bJ Z (λ _ x=>ao Z (τ.aJ.fR gw (((dj.later x).has.chunk (eb.1 * 6) (eb.1 * 6+6) (by omega) (by omega)).cw (bb 4 (by first | (rw [aRZ,aSf];omega) | omega))) (c8 (l:=fz out eb.1) (u:=0) (by first | (rw [aRZ,aSf];omega) | omega)) Z bc))<|rT (v:= .agg #[.int .i64 ((fz out eb.1).getD 3 0), .int .i64 ((fz out eb.1).getD 4 0)]) Z Z (λ _=>cI Z (by kernel_rfl)) Z<|au Z (λ _=>aK Z)<|au Z (λ _=>b9 5 underlying22 dx Z Z ((dj.has.chunk (eb.1 * 6) (eb.1 * 6+6) (by omega) (by omega)).bP (bb 5 (by first | (rw [aRZ,aSf];omega) | omega))) Z (by omega))<|bJ Z (λ _ x=>ao Z (τ.aJ.fR gw (((dj.later x).has.chunk (eb.1 * 6) (eb.1 * 6+6) (by omega) (by omega)).cw (bb 5 (by first | (rw [aRZ,aSf];omega) | omega))) (c8 (l:=fz out eb.1) (u:=0) (by first | (rw [aRZ,aSf];omega) | omega)) Z bc))<|rT (v:= .agg #[.int .i64 ((fz out eb.1).getD 0 0), .int .i64 ((fz out eb.1).getD 1 0), .int .i64 ((fz out eb.1).getD 2 0), .int .i64 ((fz out eb.1).getD 3 0), .int .i64 ((fz out eb.1).getD 4 0), .int .i64 ((fz out eb.1).getD 5 0)]) Z Z (λ _=>cI Z (by kernel_rfl)) Z<|gv Z Z Z λ tN fe Q hK=>cX (e:= 69) (cs:= [.int .i64 ((fz out eb.1).getD 0 0), .int .i64 ((fz out eb.1).getD 1 0), .int .i64 ((fz out eb.1).getD 2 0), .int .i64 ((fz out eb.1).getD 3 0), .int .i64 ((fz out eb.1).getD 4 0), .int .i64 ((fz out eb.1).getD 5 0)]) Z (λ _=>by kernel_rfl) Z λ vd apX hY azb J0=>hK _ _ ⟨γ fe hY, ?_⟩;have:=fe.size;have ia:=aal.trans (Mod.bE fe);have:=hY.size;have jI:=ia.trans (Mod.bE hY);have Y0:=J0.lt;have fh:=fh.later (γ fe hY);have aBe:=fh;refine eK Z Z Z λ wQ eP Q hK=>ap ao9 τ.dI (fh.later eP) ((aP.gS (R:=aL.rep) (by_:=48) (q:=(⟨(fz out eb.1).getD 0 0,(fz out eb.1).getD 1 0,(fz out eb.1).getD 2 0,⟨(fz out eb.1).getD 3 0,(fz out eb.1).getD 4 0⟩,(fz out eb.1).getD 5 0⟩:aL)) J0 ⟨Z,⟨Iw 0,Iw 1,Iw 2,Iw 3,Iw 4,Iw 5⟩⟩ (by decide)).keep eP) Z Z (by simp only [aR0,aR6];omega) (by simp only [aR0,aR6];omega) (by have:=eP.size;omega) Z λ NT aaO adk ke ug auW aNZ=>hK _ _ ?_;have:=eP.size;have mC:=jI.trans (Mod.bE eP);have:=ke.size;have yN:=mC.md ke (λ q I=> .inr ((λ q I=>aSs (by omega) ((fh.later eP).lt q I).1) q I));have El:=λ q I=>(ug.lt q I).2;have:=ke.size;have nv:=nv.later (γ fe (γ hY eP));have nJ:∀ q∈τ.ah kp,q=Pl→False:=λ q I Φ=>by (have:=MU q I;omega)
     have nv:=nv.mod ke (λ I=>nJ _ I rfl);have aBf:=nv;refine eK Z Z Z λ Jx kl Q hK=>st (new:= [.slice aaO (((pre.map λ k=>yj (fz out k.1))++ [(⟨(fz out eb.1).getD 0 0,(fz out eb.1).getD 1 0,(fz out eb.1).getD 2 0,⟨(fz out eb.1).getD 3 0,(fz out eb.1).getD 4 0⟩,(fz out eb.1).getD 5 0⟩:aL)]).length) adk]) Z Z (nv.later kl) Z Be Z Z Z λ sB lF nv=>hK _ _ ?_;have:=kl.size;have vr:=yN.trans (Mod.bE kl);have:=lF.size;have i_:=vr.md lF (λ q I=> .inl I);refine fn λ JC n9=> ?_;have:=n9.size;have sM:=i_.trans (Mod.bE n9);refine Rd.bY<| ?_;have xM:=xM.later (γ fe (γ hY eP));have xM:=xM.mod ke (λ q I=>(aBe.later eP).PH q I);have xM:=xM.later kl;have xM:=xM.mod lF (λ q I=>by rw [aRT.1 I];exact ⟨_,_,_,(aBf.later kl)⟩);have xM:=xM.later n9;have nv:=nv.later n9;have ug:=ug.later kl;have ug:=ug.mod lF (λ q I h=>by have Φ:=aRT.1 h;exfalso;(exact aR9 (auW q I) (λ ML=>by (exact nJ q ML Φ)) (λ ML=>by omega)));have ug:=ug.later n9;have dj:=dj.later (γ fe (γ hY eP));have dj:=dj.mod ke (λ q I h=>by exfalso;(have:=MU q h;(have:=pC q I;have:=SJ q I;omega)));have dj:=dj.later kl;have dj:=dj.mod lF (λ q I h=>by have Φ:=aRT.1 h;exfalso;(have:=pC q I;have:=SJ q I;omega));have dj:=dj.later n9;exact λ _ _=>⟨xM,Mod.ayP aal sM ⟨by omega,by omega⟩ aM aM,⟨aaO,adk,(by rw [aSm];exact nv),(by rw [aSm];exact ug),dj,sM⟩⟩
    ·intro D aFH aQS aKb Ia Wn zB;obtain ⟨kp,co,nv,fh,dj,ans⟩:=Wn;have Wv:aFH=List.finRange q:=Ia;subst Wv;have:=ans.size;have aFO:=Ext.mod nu ans (λ q I=>by rw [aRT.1 I];omega);refine gP.bY<|gP.aU<|gP.aA<|gP.aA<|gP.rg<|gP.iT (ao Z (nv.one o6 Z)) Z<|gP.ca Vo Z Z ((YG _ _ (I4 out q) _ fh.has).mono ?_);rintro e aRO ⟨rfl,oR⟩;refine ⟨_,Z, ?_⟩;have:=oR.size;have anC:=γ aFO oR;refine gP.iT (fF Z) Z<|gP.nl<|gP.aU<|gP.aA<|gP.rg<|gP.iT (aK Z) Z<|gP.iT (bne Z Z) Z<|gP.nl<|gP.aU<| ?_;refine gP.eV Z (λ LF=> ?_) (λ LF=> ?_)
     ·refine gP.aA<|gP.rg<|gP.iT (aK Z) Z<|gP.iT (fF Z) Z<|gP.iT (fF Z) Z<|gP.nl<|gP.aU<|gP.rt<|gP.bT<| ?_;have zB:=zB.later oR;refine gP.bd zB (.tmp Z (.tmp Z .nil))<| ?_;exact ⟨[],_,none,0, .inr ⟨by simpa using wb,out,j,Ll, .inr (.inr ⟨by simpa using jx,by omega, .inl ⟨by rw [I3 Mc];simpa using LF,rfl,by rw [I3 Mc]⟩⟩)⟩,Z,τ.aF.nil _,Ext.mod anC zB.un (λ q I=>by rw [aRT.1 I];omega)⟩
     ·refine gP.fI<|gP.aU<|gP.aA<|gP.rg<| ?_;have nv:=nv.later oR;refine gP.iT (ao Z (nv.one o6 Z)) Z<|gP.iT (fF Z) Z<|gP.iT (fF Z) Z<|gP.nl<|gP.aU<|gP.rt<| ?_;have zB:=zB.later oR;refine gP.bd zB (.tmp Z (.tmp Z .nil))<| ?_;have fh:=fh.later oR;exact ⟨_,_,kp,co, .inr ⟨by simpa using wb,out,j,Ll, .inr (.inr ⟨by simpa using jx,by omega, .inr ⟨by rw [I3 Mc];simpa using LF,(I3 Mc).symm,rfl⟩⟩)⟩,rfl,(fh.down (by omega)).mod zB.un (λ lX κ ab=>by have aw:=aRT.1 ab;subst aw;obtain ⟨_,_,_,hc⟩:=fh.PH _ κ;rw [show _=_ from zB] at hc;exact nomatch hc),Ext.mod anC zB.un (λ q I=>by rw [aRT.1 I];omega)⟩
end
section
theorem adx {α:Type} (n:Nat):∀ (q:Nat) (l:List α),l.length=q * n→((List.finRange q).flatMap λ k=>(l.drop (k.1 * n)).take n)=l
 | 0,l,h=>by
  have:l= []:=aSu (by omega);subst this;rfl
 | q+1,l,h=>by
  rw [aTx] at h;have bx:=adx n q (l.drop n) (by rw [aSf];omega);rw [List.finRange_succ,aTu,List.flatMap_map];have e:(λ k:Fin q=>(l.drop (k.succ.1 * n)).take n)=λ k:Fin q=>((l.drop n).drop (k.1 * n)).take n:=by
   funext k
   rw [aV6];congr 2;show (k.1+1) * n=_;rw [aTx];omega
  show (l.drop (0 * n)).take n++((List.finRange q).flatMap λ k:Fin q=>(l.drop (k.succ.1 * n)).take n)=l;rw [e,bx,aWq,aUs,aT0]
theorem RU (o:aL) (l:List aL):nums (o::l)=o.by_::o.kind::o.aR::o.spot.x::o.spot.y::o.what::nums l:=rfl
theorem aki:∀ {a b:List aL},nums a=nums b→a=b
 | [], [],_=>rfl
 | [],o::b,h=>by rw [RU] at h;exact nomatch h
 | o::a, [],h=>by rw [RU] at h;exact nomatch h
 | o::a,p::b,h=>by
  rw [RU,RU] at h;injection h with κ h
  injection h with ab h
  injection h with aw h
  injection h with a6 h
  injection h with bH h
  injection h with ch h
  have e:o=p:=by
   obtain ⟨ck,a2,a3,⟨a4,a5⟩,KB⟩:=o;obtain ⟨c1,c2,c3,⟨c4,c5⟩,dG⟩:=p;simp only at κ ab aw a6 bH ch;subst κ ab aw a6 bH ch;rfl
  rw [e,aki h]
theorem azx {l:List Int} (h:l.length=6): [l.getD 0 0,l.getD 1 0,l.getD 2 0,l.getD 3 0,l.getD 4 0,l.getD 5 0]=l:=by
 match l,h with
 | [a,b,c,d,e,f],_=>rfl
theorem akj {out:List Int} {q:Nat} (h:out.length=q * 6):nums (I4 out q)=out:=by
 have e:nums (I4 out q)=(List.finRange q).flatMap λ k=>(out.drop (k.1 * 6)).take 6:=by
  unfold nums I4;rw [List.flatMap_map];have bh:(λ k:Fin q=> [(yj (fz out k.1)).by_,(yj (fz out k.1)).kind,(yj (fz out k.1)).aR,(yj (fz out k.1)).spot.x,(yj (fz out k.1)).spot.y,(yj (fz out k.1)).what])=λ k:Fin q=>(out.drop (k.1 * 6)).take 6:=by
   funext k
   have ar:=k.2;have ch:=adw (l:=out) (k:=k.1) (by omega);have dZ:fz out k.1=(out.drop (k.1 * 6)).take 6:=by unfold fz;congr 1;omega
   rw [← dZ];exact azx ch
  exact aTc (λ f=>(List.finRange q).flatMap f) bh
 rw [e];exact adx 6 q out h
theorem aAB {l:List aL} (h:∀ o∈l,o.ok):sW (nums l):=by
 intro x hx;obtain ⟨o,b4,hx⟩:=aVS.1 hx;obtain ⟨Gr,py,mo,nU,oH,ql⟩:=h o b4;simp only [aSh,aTn,aT5] at hx;rcases hx with rfl | rfl | rfl | rfl | rfl | rfl
 ·exact bM.1 Gr
 ·exact bM.1 py
 ·exact bM.1 mo
 ·exact bM.1 nU
 ·exact bM.1 oH
 ·exact bM.1 ql
theorem YR {l m:List aL} {k:Int} (h:iB l=0) (eh:∀ o∈l,o.ok) (hR:C1 (jl l) m k):k=0∧m=l:=by
 have hw:=Te h;have hn:=RV l;have xL:=(Nk h).1;have b4:kW.mq (jl l)=(Pack.strOf (Pack.rb (nums l)),0):=by rw [hw];exact kW.aAV _
 have I:(nums l).length=l.length * 6:=by omega
 have hf:Gu (nums l)=l:=by
  rw [I3 I];exact aki (akj I)
 rcases hR with ⟨κ,_⟩ | ⟨_,out,j,br,ab⟩
 ·rw [b4] at κ;exact absurd Z κ
 ·rw [b4] at br;obtain ⟨az,rfl⟩:=Pack.ave (aAB eh) (by omega) br;rcases ab with ⟨aw,_⟩ | ⟨_,aw,_⟩ | ⟨_,_,⟨aw,_⟩ | ⟨aw,a6,bH⟩⟩
  ·exact absurd az aw
  ·omega
  ·rw [hf] at aw;exact absurd h aw
  ·exact ⟨bH,by rw [a6,hf]⟩
theorem aCn {s:ByteArray} {m:List aL} {k:Int} (hR:C1 s m k):(k=0→iB m=0∧jl m=s)∧(k≠0→m= []):=by
 rcases hR with ⟨κ,ab,aw⟩ | ⟨κ,out,j,br,ab⟩
 ·exact ⟨λ h=>absurd (aw ▸ h) κ,λ _=>ab⟩
 ·rcases ab with ⟨aw,a6,bH⟩ | ⟨_,aw,a6,bH⟩ | ⟨az,ch,⟨aw,a6,bH⟩ | ⟨aw,a6,bH⟩⟩
  ·exact ⟨λ h=>absurd (bH ▸ h) aw,λ _=>a6⟩
  ·exact ⟨λ h=>by omega,λ _=>a6⟩
  ·exact ⟨λ h=>absurd (bH ▸ h) aw,λ _=>a6⟩
  ·refine ⟨λ _=> ?_,λ h=>absurd bH h⟩;subst a6;refine ⟨aw, ?_⟩;have I:out.length=(out.length / 6) * 6:=by omega
   rw [Te aw,I3 I,akj I,← (br.2.1 az).1];rcases kW.aky s with ⟨_,dZ⟩ | ⟨dZ,_⟩
   ·exact dZ
   ·omega
theorem anc (l:List aL):(jl l).size≤140737488351232:=by
 by_cases h:iB l=0
 ·have κ:=(Nk h).1;have ab:=RV l;have aw:=Pack.akX (nums l);rw [Te h,kW.Sn,Pack.Jh];omega
 ·rw [anb h];decide
def aOn:List aL:= [⟨1,2,7,⟨2, -1⟩,0⟩]
end
section
theorem awf {w:World} {cs:List Value} {a:ByteArray} (h:uT.has w cs a):cs= [.string a]:=aTW (show cs= [.string a]∧a.size≤140737488351232 from h)
theorem aCl:∀ (j:Nat) u,(Value.string .empty).cells[j]? =some u→uT.raw j u:=by
 intro j u hu;have hu:(#[(Value.string .empty:Value)]:Array Value)[j]? =some u:=hu
 match j,hu with
 | 0,hu=>exact ⟨_,(aRV hu).symm,by decide⟩
 | j+1,hu=>cases hu
theorem ayA:(prog.info? 9).map (λ i=>(i.zero,i.size,i.bytes))=some (some (.string .empty),1,16):=by kernel_rfl
end
end Go.Proofs.YtmeeljmapailnaaGreat
namespace Go.Proofs.YtmeeljmapailnaaGreat.Tree
open Tryz
open Go.RowKit Go.Proofs.YtmeeljmapailnaaGreat Go.Proofs.YtmeeljmapailnaaGreat.fu Go.Proofs.YtmeeljmapailnaaGreat.Mark
def H6 (k:Nat):Nat→List (List UInt8)→List cV
 | 0,_=> []
 | e+1,l=>if k.testBit e then Sf (l.take (2 ^ e))::H6 k e (l.drop (2 ^ e)) else H6 k e l
def PI (l:List cV):List Value:=l.map fun x=>Value.int .u64 (U x)
def GW (_:Nat) (u:Value):Prop:=∃ n:Int,u= .int .u64 n
def aHF (k:Nat) (l:List ByteArray) (w:World) (e:Ending) (w':World):Prop :=
 ∃ A c,e= .returned (.tuple #[.slice A (H6 k 9 (lists l)).length c, .int .i64 0])∧Own w' w.heap.size 130 1 GW (.slice A (H6 k 9 (lists l)).length c) (H6 k 9 (lists l)).length (PI (H6 k 9 (lists l)))∧Below w.heap.size w w'
end Go.Proofs.YtmeeljmapailnaaGreat.Tree
namespace Go.Proofs.YtmeeljmapailnaaGreat
open Tryz
end Go.Proofs.YtmeeljmapailnaaGreat
namespace Go.Proofs.YtmeeljmapailnaaGreat.Tree
open Tryz
open Go.RowKit Go.Proofs.YtmeeljmapailnaaGreat Go.Proofs.YtmeeljmapailnaaGreat.fu Go.Proofs.YtmeeljmapailnaaGreat.Mark
def ayL:List cV→cV
 | []=>0#64
 | x::r=>match r with
  | []=>x
  | y::t=>I8 x (ayL (y::t))
def aHG (w:World) (e:Ending) (w':World):Prop:=∃ (A:Option Addr) (n c:Nat) (k:Int),e= .returned (.tuple #[.slice A n c, .int .i64 k])∧Below w.heap.size w w'
def GS (_:Nat) (u:Value):Prop:=∃ s:ByteArray,u= .string s
def aGS (w:World) (n:Nat) (l:List ByteArray) (e:Ending) (w':World):Prop :=
 ∃ A c,e= .returned (.slice A n c)∧Own w' w.heap.size 9 1 GS (.slice A n c) n (aq0 l)∧Below w.heap.size w w'
end Go.Proofs.YtmeeljmapailnaaGreat.Tree
namespace Go.Proofs.YtmeeljmapailnaaGreat
open Tryz
end Go.Proofs.YtmeeljmapailnaaGreat
namespace Go.Proofs.YtmeeljmapailnaaGreat.Tree
open Tryz
open Go.RowKit Go.Proofs.YtmeeljmapailnaaGreat Go.Proofs.YtmeeljmapailnaaGreat.fu Go.Proofs.YtmeeljmapailnaaGreat.Mark
def HH:Nat→cV→Nat→Nat→List cV→cV×Bool
 | 0,m,_,_,t=>(m,t.isEmpty)
 | f+1,m,at_,n,t =>
  if n=1 then (m,t.isEmpty) else
  match t.getLast? with
  | none=>(0#64,false)
  | some x=>if at_<mr n then (I8 (HH f m at_ (mr n) t.dropLast).1 x,(HH f m at_ (mr n) t.dropLast).2)
   else (I8 x (HH f m (at_ - mr n) (n - mr n) t.dropLast).1,(HH f m (at_ - mr n) (n - mr n) t.dropLast).2)
def aGR (w:World) (r:cV×Bool) (e:Ending) (w':World):Prop:=e= .returned (.tuple #[.int .u64 (U r.1), .bool r.2])∧w=w'
def ahi (root:cV) (s:List UInt8) (at_ n:Nat) (t:List cV):Bool:=(HH n (DV s) at_ n t).2 && decide ((HH n (DV s) at_ n t).1=root)
end Go.Proofs.YtmeeljmapailnaaGreat.Tree
namespace Go.Proofs.YtmeeljmapailnaaGreat
open Tryz
end Go.Proofs.YtmeeljmapailnaaGreat
namespace Go.Proofs.YtmeeljmapailnaaGreat.Tree
open Tryz
open Go.RowKit Go.Proofs.YtmeeljmapailnaaGreat Go.Proofs.YtmeeljmapailnaaGreat.fu Go.Proofs.YtmeeljmapailnaaGreat.Mark

def Sy:Nat→List (List UInt8)→Nat→List cV
 | 0,_,_=> []
 | f+1,l,at_=>if l.length=1 then [] else
  if at_<mr l.length then Sy f (l.take (mr l.length)) at_++ [Sf (l.drop (mr l.length))]
  else Sy f (l.drop (mr l.length)) (at_ - mr l.length)++ [Sf (l.take (mr l.length))]
def aH2 (w:World) (t:List cV) (e:Ending) (w':World):Prop:=∃ A c,e= .returned (.slice A t.length c)∧Own w' w.heap.size 130 1 GW (.slice A t.length c) t.length (PI t)∧Below w.heap.size w w'
end Go.Proofs.YtmeeljmapailnaaGreat.Tree
namespace Go.Proofs.YtmeeljmapailnaaGreat
open Tryz
end Go.Proofs.YtmeeljmapailnaaGreat
namespace Go.Proofs.YtmeeljmapailnaaGreat.Tree
open Tryz
open Go.Proofs.YtmeeljmapailnaaGreat.fu Go.Proofs.YtmeeljmapailnaaGreat.Mark

def aej:Nat→Nat→Nat→Nat
 | 0,_,_=>0
 | f+1,at_,n=>if n=1 then 0 else if at_<mr n then aej f at_ (mr n)+1 else aej f (at_ - mr n) (n - mr n)+1
def alK:Nat→Nat→Nat→List Bool
 | 0,_,_=> []
 | f+1,at_,n=>if n=1 then [] else if at_<mr n then alK f at_ (mr n)++ [false] else alK f (at_ - mr n) (n - mr n)++ [true]
def aDt (m:cV) (x:Bool×cV):cV:=if x.1 then I8 x.2 m else I8 m x.2
def along (sd:List Bool) (t:List cV) (m:cV) (k:Nat):cV:=((sd.zip t).take k).foldl aDt m
end Go.Proofs.YtmeeljmapailnaaGreat.Tree
namespace Go.Proofs.YtmeeljmapailnaaGreat
open Tryz
end Go.Proofs.YtmeeljmapailnaaGreat
namespace Go.Proofs.YtmeeljmapailnaaGreat.Tree
open Tryz
open Go.RowKit Go.Proofs.YtmeeljmapailnaaGreat Go.Proofs.YtmeeljmapailnaaGreat.fu Go.Proofs.YtmeeljmapailnaaGreat.Mark

def aH3 (w:World) (t:List cV) (e:Ending) (w':World):Prop:=∃ A c,e= .returned (.tuple #[.slice A t.length c, .int .i64 0])∧Own w' w.heap.size 130 1 GW (.slice A t.length c) t.length (PI t)∧Below w.heap.size w w'
def aGT (w:World) (n:Nat) (l:List cV) (e:Ending) (w':World):Prop :=
 ∃ A c,e= .returned (.slice A n c)∧Own w' w.heap.size 130 1 GW (.slice A n c) n (PI l)∧Below w.heap.size w w'
end Go.Proofs.YtmeeljmapailnaaGreat.Tree
namespace Go.Proofs.YtmeeljmapailnaaGreat
open Tryz
section
open Go.Proofs.YtmeeljmapailnaaGreat.fu
def aH1 (l:List ByteArray) (n k:Int) (t:List (BitVec 64)):Prop:=(k=0∧0≤n∧n<(l.length:Int)∧t=Tree.Sy l.length (Tree.lists l) n.toNat)∨(k≠0∧¬(0≤n∧n<(l.length:Int))∧t= [])
def aHU (W:ae) (L:List (List aL)) (n e:Int) (r:BitVec 64):Prop :=
 (e=0∧qO W L∧0≤n∧n≤(L.length:Int)∧r=Tree.Sf (Tree.lists ((L.take n.toNat).map jl)))∨(e≠0∧¬(qO W L∧0≤n∧n≤(L.length:Int))∧r=0)
def acy (W:ae) (L:List (List aL)) (n e:Int) (s:ByteArray) (t:List (BitVec 64)):Prop :=
 (e=0∧qO W L∧0≤n∧n<(L.length:Int)∧s=(L.map jl).getD n.toNat ByteArray.empty∧t=Tree.Sy (L.map jl).length (Tree.lists (L.map jl)) n.toNat)∨(e≠0∧¬(qO W L∧0≤n∧n<(L.length:Int))∧s=HC []∧t= [])
def aH0 (r:BitVec 64) (n at_:Int) (s:ByteArray) (t:List (BitVec 64)) (m:List aL) (k:Int) (b:Bool):Prop :=
 (Tree.ahi r s.data.toList at_.toNat n.toNat t=true∧C1 s m k∧b=(k == 0))∨(Tree.ahi r s.data.toList at_.toNat n.toNat t=false∧m= []∧b=false∧k=0)
end
section
open Go.Proofs.YtmeeljmapailnaaGreat.fu
theorem au3 (L:List (List aL)) {i:Nat} (h:i<L.length):(L.map jl).getD i ByteArray.empty=jl (L.getD i []):=by
 rw [aRU,aRU,aSd,aRX h];rfl
theorem acy.size {W:ae} {L:List (List aL)} {n e:Int} {s:ByteArray} {t:List (BitVec 64)} (h:acy W L n e s t):s.size≤140737488351232:=by
 rcases h with ⟨_,_,aG,κ,ab,_⟩ | ⟨_,_,ab,_⟩
 ·rw [ab,au3 L (by omega)];exact anc _
 ·rw [ab];decide
def aPL:List (List aL):= [n1, []]
end
section
theorem KL (A:Option Addr) (c:Nat) (l:List aL) (w:World) (h:aL.rep.aJ 48 w A c l):
  Calls prog 90 #[.slice A l.length c] w λ e w'=>∃ bK b5,e= .returned (.slice bK l.length b5)∧aL.rep.aF 69 48 w' w.heap.size (τ.ah bK) bK b5 l∧(bK=none↔A=none)∧Below w.heap.size w w':=by
 obtain ⟨i0,aq,ph,mO,m_⟩:=aUq aL.info;have Sb:∀ (w:World) (a:Option Addr) (n c kf b5:Nat),(binOp .eql 48 (.slice a n c) (.slice none kf b5)).run prog w= .ok (.bool a.isNone) w:=λ w a n c kf b5=>aT4 w _ _ a n c kf b5 underlying48;cases A with
 | none =>
  obtain rfl:c=0:=h.2.2.2.1 rfl;obtain rfl:l= []:=aSu (by have:=h.1;omega);go_enter func90,ntmps90;go_wp2_with fail
  go_ret;exact ⟨none,0,Z,τ.aF.nil _,by simp,aSr _ _⟩
 | some a =>
  have cH:Below w.heap.size w (w.alloc (.cells #[] 69)):=(aSr _ w).alloc (aR7 _) _;obtain ⟨n,ff⟩:∃ n,Hid (l.length=n):=⟨_,aRY rfl⟩;obtain ⟨κ,ab,aw,a6,ess,bH,ch⟩:=h.keep cH;have y1:=aRY bH;have pe:∀ u∈ess.flatten,u.oneCell'=true:=by
   intro u hu;obtain ⟨y,aI,hu⟩:=aS7.1 hu;obtain ⟨a,ha⟩:=bH.left y aI;exact aL.rep.one ha u hu
  have q0:∀ (j:Nat) u,ess.flatten[j]? =some u→aL.rep.raw (j % aL.rep.size) u:=λ j u hu=>HZ bH (by decide) hu;rw [ff.out] at κ aw ch;have ct:=aRY ch;have jL:=aRY (Own.empty (e:= 69) (size:=aL.rep.size) (G:=aL.rep.raw) w (aR7 w.heap.size));clear h a6 bH ch;rw [ff.out];go_enter func90,ntmps90;go_wp2_with (at_builtin;refine JK _ rfl _ _ 48 rfl w.heap.size 69 i0 aL.zero aL.rep.size 48 underlying48 aq ph mO m_ rfl (by decide) aL.rep.raw aL.jq _ _ _ rfl jL.out (some a) n c ess.flatten rfl ct.out pe q0 ?qc4 ?qc5 ?qc6 ?_)
  case qc4=>unfold maxLen;omega
  case qc5=>omega
  case qc6=>simp
  intro v' aT fo j2 m8 fA;have cP:=cH.grown j2 (by simp) (by intro k ar;simp [Value.ownBlock] at ar;omega);obtain ⟨cp,c1,rfl,hle,_,_,_,lQ⟩:=fo.shape;have kJ:cp≠none:=by
   intro h;subst h;exact m8 (lQ Z)
  have aS:Hid (aL.rep.aF 69 48 aT w.heap.size (τ.ah cp) cp c1 l):=aRY (τ.aF.B6 aL.plain y1.out (by rw [ff.out];exact aw) (by rw [ff.out];simpa using fo));have tZ:=aRY kJ;clear j2 m8 fA fo kJ lQ pe q0;go_wp2_with fail
  go_ret;exact ⟨cp,c1,Z,aS.out,⟨λ h=>absurd h tZ.out,λ h=>by cases h⟩,cP⟩
end
end Go.Proofs.YtmeeljmapailnaaGreat
