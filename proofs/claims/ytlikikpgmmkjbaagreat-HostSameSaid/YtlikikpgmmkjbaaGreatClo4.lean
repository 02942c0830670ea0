import Derived.Test.YtlikikpgmmkjbaaGreatCrcM
set_option linter.unusedVariables false
set_option linter.unusedSimpArgs false
set_option maxRecDepth 100000
set_option maxHeartbeats 4000000
open Go.RowKit
namespace Go.Proofs.YtlikikpgmmkjbaaGreat
open Tryz
abbrev aVM:=@List.mem_flatMap
abbrev aWq:=@List.length_finRange
end Go.Proofs.YtlikikpgmmkjbaaGreat
namespace Go.Proofs.YtlikikpgmmkjbaaGreat.kD
open Tryz
open Go.RowKit Go.Proofs.YtlikikpgmmkjbaaGreat.fy

theorem akM {a b:Int} (h:a=b):Ending.returned (.int .u32 a)= .returned (.int .u32 b):=by rw [h]

theorem aDu (m:BitVec 32) (x y:Int) (aG:0≤x) (κ:x≤4294967295) (aa:0≤y) (aw:y≤255) (hm:m=BitVec.ofInt 32 x ^^^ (BitVec.ofInt 8 y).setWidth 32) (w:World):
  Calls prog 215 #[.int .u32 x, .int .u8 y] w fun e w'=>e= .returned (.int .u32 (U (steps 8 m)))∧w=w':=by
 have mb:=aRV (ayc x y aa (by omega));rw [← hm] at mb;clear hm;go_enter func215,ntmps215;go_wp2
 go_loop [0,9] (fun x i=>∃ (k:Nat) (q:BitVec 32),k≤8∧i= .int .i64 k∧x= .int .u32 (U q)∧Hid (steps (8 - k) q=steps 8 m)) (fun _ i=>8 - (intOf i).toNat)
 case atStart=>exact ⟨0,m,by omega,rfl,by rw [mb.out],rfl⟩
 case round =>
  obtain ⟨k,q,av,rfl,rfl,I⟩:=hrel;by_cases bC:k<8
  ·go_wp2
   go_round
   case rel =>
    refine ⟨k+1,step q,by omega,by go_num,by rw [Zd], ?_⟩;have h:=I.out;rw [show 8 - k=(8 - (k+1))+1 by omega] at h;exact h
   case measure=>simp [intOf];omega
  ·have agy:k=8:=by omega
   have h:=I.out;rw [agy] at h;clear I agy;have bV:=aRV h;clear h;go_wp2
   go_ret;exact ⟨akM (by rw [← bV.out];rfl),Z⟩
theorem aDt (n:BitVec 32) (b:UInt8) (x y:Int) (hx:x=U n) (aK:y=(b.toNat:Int)) (w:World):
  Calls prog 215 #[.int .u32 x, .int .u8 y] w fun e w'=>e= .returned (.int .u32 (U (take n b)))∧w=w':=by
 subst hx aK;have Φ:=b.toNat_lt;refine aDu _ _ _ (TN _) (aoZ _) (by omega) (by omega) ?_ w;rw [vW];congr 2;rw [aSS];exact (aUh 8 b.toBitVec).trans (aUg _) |>.symm

theorem ajH (x:Int):bits BinOp.xor IntKind.u32 IntKind.u32.max x=U (~~~(BitVec.ofInt 32 x)):=by
 refine PH (OQ _ _ _) (OP _ _ _) ?_;rw [Ym];exact BitVec.allOnes_xor

theorem aDy (s:ByteArray) (k:Nat) (h:k<s.size):s.data.toList.take (k+1)=s.data.toList.take k++ [s[k]]:=by
 rw [aSk (by simpa using h)];rfl
theorem Yd (x:Int) (s:ByteArray) (aG:0≤x) (κ:x≤4294967295) (hs:s.size≤9223372036854775807) (w:World):
  Calls prog 189 #[.int .u32 x, .string s] w fun e w'=>e= .returned (.int .u32 (U (more (BitVec.ofInt 32 x) s.data.toList)))∧w=w':=by
 obtain ⟨n,k1⟩:∃ n,Hid (n=BitVec.ofInt 32 x):=⟨_,rfl⟩;have fa:=aRV (ajH x);rw [← k1.out] at fa;rw [← k1.out];clear aG κ;go_enter func189,ntmps189;go_wp2
 go_loop [0,10] (fun x i=>∃ k:Nat,k≤s.size∧i= .int .i64 k∧x= .int .u32 (U (fold (~~~n) (s.data.toList.take k)))) (fun _ i=>s.size - (intOf i).toNat)
 case atStart=>exact ⟨0,aSG _,rfl,by rw [fa.out];rfl⟩
 case round =>
  obtain ⟨k,av,rfl,rfl⟩:=hrel;by_cases bC:k<s.size
  ·go_wp2_with (go_at_call 215;refine (aDt _ s[k] _ _ rfl rfl _).mono ?_;rintro e w' ⟨rfl,rfl⟩)
   go_round
   case rel =>
    refine ⟨k+1,by omega,by go_num, ?_⟩;rw [aDy s k bC,aua]
   case measure=>simp [intOf];omega
  ·go_wp2
   go_ret;have awo:k=s.size:=by omega
   exact ⟨akM (by rw [ajH,vW,awo,aSh (by simp)];rfl),Z⟩
theorem Yk (s:ByteArray) (hs:s.size≤9223372036854775807) (w:World):
  Calls prog 154 #[.string s] w fun e w'=>e= .returned (.int .u32 (U (of s.data.toList)))∧w=w':=by
 go_enter func154,ntmps154;go_wp2_with (go_at_call 189;refine (Yd _ s (by decide) (by decide) hs _).mono ?_;rintro e w' ⟨rfl,rfl⟩)
 go_ret;exact ⟨Z,Z⟩

end Go.Proofs.YtlikikpgmmkjbaaGreat.kD
namespace Go.Proofs.YtlikikpgmmkjbaaGreat
open Tryz
end Go.Proofs.YtlikikpgmmkjbaaGreat
namespace Go.Proofs.YtlikikpgmmkjbaaGreat.kD
open Tryz
open Go.RowKit Go.Proofs.YtlikikpgmmkjbaaGreat.fy
def AT (n:BitVec 32):List UInt8:= [UInt8.ofNat n.toNat,UInt8.ofNat (n.toNat / 256),UInt8.ofNat (n.toNat / 65536),UInt8.ofNat (n.toNat / 16777216)]
def v_ (s:ByteArray):ByteArray:=s++⟨(AT (of s.data.toList)).toArray⟩
theorem akZ (s:ByteArray):(v_ s).data.toList=s.data.toList++AT (of s.data.toList):=by
 unfold v_;rw [ByteArray.data_append,aVj]
theorem RP (s:ByteArray):(v_ s).size=s.size+4:=by
 have h:=aS4 List.length (akZ s);rw [aRX] at h;simp only [aT6] at h;exact h

theorem aqX (n:BitVec 32) (u:World):(convert 76 9 (.slice (some ⟨u.heap.size,0,none⟩) 4 4)).run prog (u.alloc (.cells #[.int .u8 (U n % 256), .int .u8 (U n / 256 % 256), .int .u8 (U n / 65536 % 256), .int .u8 (U n / 16777216 % 256)] 5))=
  .ok (.string ⟨(AT n).toArray⟩) (u.alloc (.cells #[.int .u8 (U n % 256), .int .u8 (U n / 256 % 256), .int .u8 (U n / 65536 % 256), .int .u8 (U n / 16777216 % 256)] 5)):=by
 refine aWu (P:=prog) _ 76 9 5 ⟨u.heap.size,0,none⟩ 4 (AT n) underlying76 underlying5 underlying9 ?_;intro j ay;rw [ack];have awm:j<4:=ay;have P8:U n=(n.toNat:Int):=rfl;rw [P8]
 match j,awm with
 | 0,_=>simp [AT,aTV]
 | 1,_=>simp [AT,aTV]
 | 2,_=>simp [AT,aTV]
 | 3,_=>simp [AT,aTV]

theorem Y1 (s:ByteArray) (hs:s.size≤9223372036854775800) (w:World):
  Calls prog 115 #[.string s] w fun e w'=>e= .returned (.string (v_ s))∧Below w.heap.size w w':=by
 have hcv:=aqX (of s.data.toList);have aB:(AT (of s.data.toList)).length≤4:=aR3 _;go_enter func115,ntmps115;go_wp2_with (go_at_call 154;refine (Yk _ (by omega) _).mono ?_;rintro e w' ⟨rfl,rfl⟩)
 go_ret;exact ⟨Z,(aSm _ _).alloc (aR3 _) _⟩
def l3 (s:ByteArray):ByteArray×Int :=
 if s.size<4 then (⟨#[]⟩,3) else if v_ (s.extract 0 (s.size - 4))=s then (s.extract 0 (s.size - 4),0) else (⟨#[]⟩,5)

theorem YR {a b:ByteArray×Int} (h:b=a):Ending.returned (.tuple #[.string a.1, .int .i64 a.2])= .returned (.tuple #[.string b.1, .int .i64 b.2]):=by rw [h]

theorem aAH (s:ByteArray) (hs:s.size≤9223372036854775800) (w:World):
  Calls prog 84 #[.string s] w fun e w'=>e= .returned (.tuple #[.string (l3 s).1, .int .i64 (l3 s).2])∧Below w.heap.size w w':=by
 by_cases a6:s.size<4
 ·have bV:=aRV (show l3 s=(⟨#[]⟩,3) by unfold l3;rw [aR5 a6]);go_enter func84,ntmps84;go_wp2_with fail
  go_ret2
  exact ⟨YR bV.out,aSm _ _⟩
 ·have hm:((s.size:Int) - 4)=((s.size - 4:Nat):Int):=by omega
  have bE:(s.extract 0 (s.size - 4)).size≤9223372036854775800:=by rw [ByteArray.size_extract];omega
  obtain ⟨m,k1⟩:∃ m,Hid (m=s.size - 4):=⟨_,rfl⟩;rw [← k1.out] at hm bE;have awN:m+4≤s.size:=by have:=k1.out;omega
  have aKM:s.size≤m+4:=by have:=k1.out;omega
  by_cases bL:v_ (s.extract 0 m)=s
  ·have bV:=aRV (show l3 s=(s.extract 0 m,0) by unfold l3;rw [← k1.out,aR0 a6,aR5 bL]);have auO:=acQ bL;have yh:=aRV bL;clear bL;go_enter func84,ntmps84;go_wp2_with (go_at_call 115;refine (Y1 _ bE _).mono ?_;rintro e aW ⟨rfl,Φ⟩)
   go_ret2
   exact ⟨YR bV.out,by assumption⟩
  ·have bV:=aRV (show l3 s=(⟨#[]⟩,5) by unfold l3;rw [← k1.out,aR0 a6,aR0 bL]);have auO:=acP bL;clear bL;go_enter func84,ntmps84;go_wp2_with (go_at_call 115;refine (Y1 _ bE _).mono ?_;rintro e aW ⟨rfl,Φ⟩)
   go_ret2
   exact ⟨YR bV.out,by assumption⟩

theorem aAI (s:ByteArray):l3 (v_ s)=(s,0):=by
 have κ:(v_ s).extract 0 ((v_ s).size - 4)=s:=by
  apply Ue;rw [aUY,akZ,RP,aUl];have e:s.size+4 - 4 - 0=s.data.toList.length:=by simp
  rw [e,aVa]
 have aa:=RP s;unfold l3;rw [aR0 (by omega),κ,aR5 rfl]
theorem aj1 (s:ByteArray):(l3 s).2=0∧v_ (l3 s).1=s∨((l3 s).2=3∨(l3 s).2=5)∧(l3 s).1=⟨#[]⟩:=by
 unfold l3;split
 ·exact .inr ⟨.inl Z,Z⟩
 ·split
  ·rename_i h;exact .inl ⟨Z,h⟩
  ·exact .inr ⟨.inr Z,Z⟩
end Go.Proofs.YtlikikpgmmkjbaaGreat.kD
namespace Go.Proofs.YtlikikpgmmkjbaaGreat
open Tryz
section
theorem aqQ (A:Option Addr) (len c n:Nat) (w:World) (hn:1≤n):
  Calls prog 86 #[.slice A len c, .int .i64 (n:Int)] w (λ e w'=>∃ eZ gT,e= .returned (.func (.func 121) #[] #[.pointer (some ⟨eZ,0,none⟩), .pointer (some ⟨gT,0,none⟩)])∧aP w' eZ [.slice A len c] 22 (0,0)∧aP w' gT [.int .i64 (n:Int)] 3 (0,0)∧w.heap.size≤eZ∧eZ<gT∧Ext w w'):=by
 refine cd (n:=9) func86 Z Z Z ?_;refine aj<|cw Z Z Z Z λ cI bJ a7 dY ab=> ?_;have:=a7.size;have bk:=γ (Ext.bI w) a7;have ed:=ab.lt;refine cw Z Z Z Z λ er cu bj ht ae=> ?_;have:=bj.size;have bK:=γ bk bj;have hk:=ae.lt;refine va Z<|ai<|az<|aj<|J (ak Z (ae.one ba Z))<|J (blt Z Z)<|ai<| ?_;have ir:(decide ((n:Int)<1))=false:=by rw [aSC];omega
 refine hM (by rw [← ir];rfl)<|bt<|aj<|J (Mv Z Z)<|va Z<|ai<|rt<|a8 (.tmp Z .nil)<| ?_;have ab:=ab.later bj;exact ⟨bJ,cu,Z,ab,ae,by omega,by omega,bK⟩
theorem aqS (q n len c eZ gT:Nat) (A:Option Addr) (w0:World) (hn:1≤n) (hlen:len=q * n) (aKD:len≤c) (rP:c≤9223372036854775807) (m:Nat) (aav:aP w0 eZ [.slice A len c] 22 (0,0)) (aaw:aP w0 gT [.int .i64 (n:Int)] 3 (0,0)):
  SeqStopsK (j6 none) m prog 121 #[.pointer (some ⟨eZ,0,none⟩), .pointer (some ⟨gT,0,none⟩)] (λ k:Fin q=>#[.slice (e1 A (k.1 * n+n) (k.1 * n) 1) n n]) (z7 eZ gT) (λ xs=>xs=List.finRange q) (λ _=>True) q w0:=by
 intro l jt aHC W Φ avv aKg au4 awk;have wD:=aav.QW (Φ.block eZ aav.lt);have yb:=aaw.QW (Φ.block gT aaw.lt);have yT:Eb W.heap.size jt [] W:=⟨avv,awk⟩;refine Rd.aqx (n:=31) func121 Z Z Z ?_;refine Rd.az<|Rd.rg<|va Z<|nl<|Rd.aV<|Rd.bS<| ?_;refine Rd.fk (λ cn cl a1=>∃ k:Nat,cl= [(0, .func (.yield l) #[] #[]),(1, .pointer (some ⟨eZ,0,none⟩)),(2, .pointer (some ⟨gT,0,none⟩)),(4, .int .i64 (((k * n:Nat):Int)))]∧cn=q - k∧True∧aP a1 eZ [.slice A len c] 22 (0,0)∧aP a1 gT [.int .i64 (n:Int)] 3 (0,0)∧Eb W.heap.size jt ((List.finRange q).take k) a1∧(k≤q)) _ _ ⟨0,Z,Z,trivial,wD,yb,(yT:Eb W.heap.size jt [] _),by omega⟩ (.cons Z (.cons Z (.cons Z (.cons (b2 Z (by first | omega | rfl | (simp<;>omega))) .nil)))) ?_;rintro Ms Jw cI ⟨k,rfl,rfl,bk,wD,yb,yT,av⟩;have aO6:=wD.lt;have aPe:=yb.lt;have hc:=k;refine Rd.az<|Rd.az<|Rd.rg<|vm Z<|J (ak Z (wD.one fQ Z))<|J (cm underlying22 Z)<|J (blt Z Z)<|nl<|Rd.aV<| ?_;refine Rd.en Z (λ mK=> ?_) (λ mK=> ?_)
 ·have HK:k<q:=Nat.lt_of_mul_lt_mul_right (a:=n) (by omega);have WT:k * n+n≤q * n:=by rw [← aTt];exact aSE _ HK
  refine Rd.fo<|Rd.aV<|Rd.az<|Rd.bS<|Rd.az<| ?_;refine Rd.rd [(0,0),(1,0)] [0,1,2,3,4,5,6] (by kernel_rfl) (by kernel_rfl) ?_;refine bA Z (λ _ x=>ak Z ((yb.later x).one ba Z))<|bA Z (λ _ x=>ak Z ((wD.later x).one fQ Z))<|aq Z (λ _=>aH Z)<|aq Z (λ _=>aCz (k * n) underlying22 dr Z Z Z (by omega))<|aq Z (λ _=>cm underlying22 Z)<|aq Z (λ _=>oc Z Z)<|aq Z (λ _=>ew Z)<|fn λ FY nT=> ?_;have:=nT.size;refine Rd.aV<|Rd.az<|oH.rg<|oH.iy (aH Z) Z<| ?_;have wD:=wD.later nT;refine oH.iy (ak Z (wD.one fQ Z)) Z<|oH.iy (aH Z) Z<|oH.iy (aH Z) Z<|oH.iy (aH Z) Z<|oH.iy (bad Z Z (bH (by omega))) Z<|oH.iy (aH Z) Z<|oH.iy (aH Z) Z<|oH.iy (bad Z Z (bH (by omega))) Z<|oH.iy (aCy (k * n) (k * n+n) n underlying22 dr Z Z Z Z Z (by omega) (by omega) (by omega) (by omega) (by omega)) Z<| ?_;have yb:=yb.later nT;have yT:=yT.later nT;refine oH.aFz Z Z Z (aFA (au4 _ (⟨k,HK⟩:Fin q) _ yT.at_ (by rw [aRU,aWq];omega)) ?_);rintro e amH k7;obtain ⟨tO,rfl,κ,aa⟩:=aFB k7;refine ⟨_,Z, ?_⟩
  replace κ:tO=true→Eb W.heap.size jt ((List.finRange q).take k++ [⟨k,HK⟩]) amH∧z7 eZ gT _ amH:=λ h=>⟨⟨yT.TS,(κ h).1⟩,(κ h).2⟩
  refine oH.iy (eg Z) Z<|oH.nl<|Rd.aV<| ?_;refine Rd.dE Z (λ kn=> ?_) (λ kn=> ?_)
  ·refine Rd.rt<|eF<|Rd.bO<|mq<|eF<|a8 .nil<| ?_;exact ⟨⟨_,Z⟩, .inr ⟨_,trivial,aa (by simpa using kn)⟩⟩
  ·obtain ⟨auU,gl⟩:=κ (by simpa using kn);have wD:=wD.QW gl.1;have yb:=yb.QW gl.2;refine Rd.fo<|Rd.bY<|Rd.aV<|Rd.rg<|vm Z<|J (ak Z (yb.one ba Z))<|J (bad Z Z (bH (by omega)))<|va Z<|nl<| ?_;exact Rd.c' _ _ ⟨k+1,Z,Z,trivial,wD,yb,(by rw [← atX HK];exact auU),by omega⟩ (by omega) (.cons Z (.cons Z (.cons Z (.cons (b2 Z (by rw [aTt];omega)) .nil))))
 ·have HK:k=q:=Nat.le_antisymm av (Nat.le_of_mul_le_mul_right (c:=n) (by omega) hn);refine Rd.dK<|Rd.dJ<|ei<|Rd.dI<|Rd.ne<|a8 .nil<| ?_;exact ⟨⟨_,Z⟩, .inl ⟨_,Z,by have:=yT.at_;rwa [HK,aSh (by rw [aWq];omega)] at this⟩⟩
end
section
def aPz:τ UInt8:=τ.flat 1 (λ b=> [.int .u8 (b.toNat:Int)]) (λ _=>True) (λ _ u=>∃ n:Int,u= .int .u8 n) (λ _=>rfl) (by intro a u hu;simp at hu;subst hu;rfl) (by
 intro a j u hu;cases j with
 | zero=>simp at hu;exact ⟨_,hu.symm⟩
 | succ j=>simp at hu)
def GQ (l:List UInt8):ByteArray:=⟨l.toArray⟩
section
variable {P:Program} {n:Nat} {E cU:List (Nat×Value)} {w:World} {d:Option Nat} {ty:TypeId} {pos:String} {af:Array Edge} {g:Option (Nat×Bool)} {x y z u:Operand} {t t2:TypeId}
end
end
section
def aCT (p:Int):UInt8:=([46,35,116,111]:List UInt8).getD p.toNat 0
def aCn (f:aD) (k j:Nat):List UInt8:=(((f.aS.drop (k * f.wide.toNat)).take (k * f.wide.toNat+f.wide.toNat - k * f.wide.toNat)).take j).map aCT
def txt (f:aD) (pre:List (Fin f.high.toNat)):List UInt8:=pre.flatMap λ k=>aCn f k.1 f.wide.toNat++ [10]
theorem aqR (A:Option Addr) (len c:Nat) (i:Int) (w:World) (ar:1≤i):Calls prog 86 #[.slice A len c, .int .i64 i] w (λ e w'=>∃ eZ gT,e= .returned (.func (.func 121) #[] #[.pointer (some ⟨eZ,0,none⟩), .pointer (some ⟨gT,0,none⟩)])∧aP w' eZ [.slice A len c] 22 (0,0)∧aP w' gT [.int .i64 (i.toNat:Int)] 3 (0,0)∧w.heap.size≤eZ∧eZ<gT∧Ext w w'):=by
 have e:i=(i.toNat:Int):=by omega
 have:=aqQ A len c i.toNat w (by omega);rw [← e] at this;rw [← e];exact this
def aJL (f:aD):ByteArray:=if f.bp≠0 then GQ [] else GQ (txt f (List.finRange f.high.toNat))
end
section
theorem aoD:eN prog bQ 22 3 8:=eN.k_ (z:= .int .i64 0) (k:=1) underlying22 CY rfl rfl (by decide) (λ j u h=>Ix j u h)
theorem aoC:eN prog aL.rep 44 51 48:=eN.k_ (z:=aL.zero) (k:=6) underlying44 aL.info rfl rfl (by decide) aL.iE
def nums (l:List aL):List Int:=l.flatMap λ o=> [o.by_,o.kind,o.aQ,o.spot.x,o.spot.y,o.what]
theorem Rm:∀ l:List aL,(nums l).length=6 * l.length
 | []=>rfl
 | o::l=>by unfold nums;rw [aTp,aRX,aRW];have:=Rm l;unfold nums at this;rw [this];simp;omega
theorem aAp {l:List aL} {k:Nat} (h:k<l.length):nums (l.take (k+1))=nums (l.take k)++ [(l.getD k default).by_,(l.getD k default).kind,(l.getD k default).aQ,(l.getD k default).spot.x,(l.getD k default).spot.y,(l.getD k default).what]:=by
 unfold nums;rw [Bc (d:=default) h,aTc];simp
def iz (l:List aL):ByteArray:=if hC l≠0 then GQ [] else kD.v_ (Pack.strOf (Pack.qU (nums l)))
theorem amC {l:List aL} (h:¬ hC l=0):iz l=GQ []:=by unfold iz;rw [aR5 h]
theorem SC {l:List aL} (h:hC l=0):iz l=kD.v_ (Pack.strOf (Pack.qU (nums l))):=by unfold iz;rw [aR0 (by simpa using h)]
theorem Pack.akp (l:List Int):(Pack.qU l).length≤10+10 * l.length:=by
 unfold Pack.qU;rw [aRX];have:=(Pack.Ba l.length).1;have:=Pack.Xv l;omega
theorem aCd {w:World} {A:Option Addr} {c:Nat} {l:List Int} (h:bQ.aJ 8 w A c l):Rd w 1 A l.length (vh l):=by
 obtain ⟨s1,s2,ML,akT,ess,MM,FJ⟩:=h;rw [Vi MM] at FJ;exact FJ
theorem axW {w:World} {A:Option Addr} {c:Nat} {l:List Int} (h:bQ.aJ 8 w A c l):sA l:=λ x hx=>bG.1 (Iz h x hx)
theorem aBF (l:List Int) (A:Option Addr) (c:Nat) (w:World) (hn:l.length≤1000) (h:bQ.aJ 8 w A c l):Calls prog 92 #[.slice A l.length c] w λ e w'=>e= .returned (.tuple #[.string (Pack.strOf (Pack.qU l)), .int .i64 0])∧Ext w w' :=
 Pack.ako A l.length c l rfl hn (axW h) w (aCd h)
theorem afp {s:List UInt8} {out:List Int} {j:Int} (h:Pack.zP s out j):out.length≤1000:=by
 obtain ⟨_,κ,aa⟩:=h;by_cases e:j=0
 ·exact (κ e).2
 ·rw [(aa e).1];exact aSG _
theorem aAW {w:World} {B n c:Nat} {A:Option Addr} {l:List Int} (h:Own w B 3 1 N9 (.slice A n c) l.length (vh l)) (aB:l.length≤1000) (PZ:sA l):n=l.length∧bQ.aF 3 8 w B (τ.ag A) A c l:=by
 have hn:n=l.length:=by
  rcases h.2 with ⟨κ,aa⟩ | ⟨g,cap,cur,hv,_⟩
  ·injection κ with _ e _;rw [e,aa]
  ·injection hv
 subst hn;refine ⟨Z,τ.aF.A9 (ess:=l.map λ a=> [Value.int .i64 a]) akK (TT λ a ha=>bG.2 (PZ a ha)) (by omega) ?_⟩;have qE:(l.map λ a=> [Value.int .i64 a]).flatten=l.map (Value.int .i64):=Vi (w:=w) (TT λ a ha=>bG.2 (PZ a ha));rw [qE];exact h
theorem auA (s:ByteArray) (hs:s.size≤9223372036854775807) (w:World):Calls prog 85 #[.string s] w (λ e w'=>∃ out k A c,Pack.zP s.data.toList out k∧e= .returned (.tuple #[.slice A out.length c, .int .i64 k])∧bQ.aF 3 8 w' w.heap.size (τ.ag A) A c out∧Ext w w'):=by
 refine (Pack.auz s hs w).mono λ e w' he=> ?_;obtain ⟨out,k,A,n,c,κ,aa,aw,a6⟩:=he;obtain ⟨rfl,bL⟩:=aAW aw (afp κ) κ.1;exact ⟨out,k,A,c,κ,aa,bL,a6⟩
theorem aAJ {s:ByteArray} (h:s.size≤140737488351232):(kD.l3 s).1.size≤9223372036854775807:=by
 rcases kD.aj1 s with ⟨_,aa⟩ | ⟨_,aa⟩
 ·have:=aS4 ByteArray.size aa;rw [kD.RP] at this;omega
 ·rw [aa];decide
def fu (l:List Int) (k:Nat):List Int:=(l.drop (k * 6)).take (k * 6+6 - k * 6)
theorem adf {l:List Int} {k:Nat} (h:k * 6+6≤l.length):(fu l k).length=6:=by unfold fu;rw [aRU,aSb];omega
theorem aqT {l:List Int} (h:∀ a∈l,fN a) (k i:Nat):fN ((fu l k).getD i 0):=by
 by_cases ar:i<(fu l k).length
 ·exact h _ (aVb (aTE (jd (d:=0) ar)))
 ·rw [aRQ,aTd (by omega)];exact bG.2 (by decide)
def xM (n:List Int):aL:=⟨n.getD 0 0,n.getD 1 0,n.getD 2 0,⟨n.getD 3 0,n.getD 4 0⟩,n.getD 5 0⟩
def Im (out:List Int) (q:Nat):List aL:=(List.finRange q).map λ k=>xM (fu out k.1)
def FD (out:List Int):List aL:=Im out (out.length / 6)
theorem Il {out:List Int} {q:Nat} (h:out.length=q * 6):FD out=Im out q:=by unfold FD;rw [show out.length / 6=q by omega]
def B7 (s:ByteArray) (m:List aL) (k:Int):Prop :=
 ((kD.l3 s).2≠0∧m= []∧k=(kD.l3 s).2)∨((kD.l3 s).2=0∧∃ out j,Pack.zP (kD.l3 s).1.data.toList out j∧((j≠0∧m= []∧k=j)∨(j=0∧out.length % 6≠0∧m= []∧k=4)∨
  (j=0∧out.length % 6=0∧((hC (FD out)≠0∧m= []∧k=hC (FD out))∨(hC (FD out)=0∧m=FD out∧k=0)))))
theorem aAY (A:Option Addr) (c:Nat) (l:List aL) (w:World) (aB:aL.rep.aJ 48 w A c l):
  Calls prog 79 #[.slice A l.length c] w (λ e w'=>e= .returned (.tuple #[.string (iz l), .int .i64 (hC l)])∧Ext w w'):=by
 have oT:=aB.dU;refine cd (n:=49) func79 Z Z Z ?_;refine aj<|va Z<|va Z<|ai<|az<|aj<|vm Z<|ca UR Z Z ((Yh _ _ l _ (aB.keep (Ext.bI w))).mono ?_);rintro e cI ⟨rfl,e_⟩;refine ⟨_,Z, ?_⟩;have:=e_.size;have bk:=γ (Ext.bI w) e_;refine va Z<|ai<|aj<|vm Z<|J (bne Z Z)<|ai<| ?_;refine ey Z (λ vF=> ?_) (λ vF=> ?_)
 ·refine aj<|vm Z<|va Z<|va Z<|ai<|rt<|bO<|a8 (.tmp Z (.tmp Z .nil))<| ?_;exact ⟨by rw [amC vF];rfl,bk⟩
 ·obtain ⟨awu,_⟩:=Ik (by simpa using vF);refine bt<|aj<|va Z<|ai<|az<|aj<|vm Z<|J (cm underlying44 Z)<|vm Z<|ai<|bS<| ?_;refine fk (λ cn cl a1=>∃ k:Nat,∃ NR:Option Addr,∃ Us:Nat,cl= [(2, .string (GQ [])),(3, .int .i64 0),(5, .slice NR ((nums (l.take k)).length) Us),(15, .slice A l.length c),(16, .int .i64 (l.length:Int)),(17, .int .i64 (k:Int))]∧cn=l.length - k∧Ext w a1∧bQ.aF 3 8 a1 w.heap.size (τ.ag NR) NR Us (nums (l.take k))∧(k≤l.length)) _ _ ⟨0,none,0,Z,Z,bk,(τ.aF.nil _),by omega⟩ (.cons Z (.cons Z (.cons Z (.cons Z (.cons Z (.cons (b2 Z (by first | omega | rfl | (simp<;>omega))) .nil)))))) ?_;rintro aNp aHt aE0 ⟨k,NR,Us,rfl,rfl,Ge,yn,av⟩;have:=Ge.size;have al1:=λ q I=>(yn.lt q I).2;have agV:=Rm (l.take k);have LG:(l.take k).length=k:=by rw [aRU];omega
  refine aj<|J (blt Z Z)<|ai<|az<| ?_;refine en Z (λ kn=> ?_) (λ kn=> ?_)
  ·have AN:=aL.mF aB _ (jd (d:=default) (show k<l.length by omega));refine bt<|az<|bS<|aj<|J (b_ k underlying44 fC Z Z ((aB.keep Ge).bP (bb k)) Z (by omega))<|J (ak Z (τ.aJ.hq K6 ((aB.keep Ge).cB (bb k)) (dn (l:=l) (u:=default) (by omega)) iZ fC))<|al Z Pq Z Z λ wg yz dm Ma fY=> ?_;have:=dm.size;have kB:=γ Ge dm;have Rx:=fY.lt;refine st (new:= [.int .i64 ((l.getD k default).by_), .int .i64 ((l.getD k default).kind), .int .i64 ((l.getD k default).aQ), .int .i64 ((l.getD k default).spot.x), .int .i64 ((l.getD k default).spot.y), .int .i64 ((l.getD k default).what)]) Z Z fY Z fC Z Z Z λ uK rY fY=> ?_;have:=rY.size;have h8:=Ext.mod kB rY bs;refine ai<|rg<|vm Z<|J (au tW Z)<|J (ak Z (fY.one ba Z))<|J (au pL Z)<|J (ak Z (fY.one ba Z))<|J (au Cq Z)<|J (ak Z (fY.one ba Z))<|J (au Cr Z)<|J (au iJ Z)<|J (ak Z (fY.one ba Z))<|J (au Cr Z)<|J (au iK Z)<|J (ak Z (fY.one ba Z))<|J (au Cs Z)<|J (ak Z (fY.one ba Z))<|cV (e:= 3) (cs:= [.int .i64 ((l.getD k default).by_), .int .i64 ((l.getD k default).kind), .int .i64 ((l.getD k default).aQ), .int .i64 ((l.getD k default).spot.x), .int .i64 ((l.getD k default).spot.y), .int .i64 ((l.getD k default).what)]) Z (λ _=>by kernel_rfl) Z λ nP GN dO XI pj=> ?_;have:=dO.size;have fx:=γ h8 dO;have MG:=pj.lt;have yn:=yn.later dm;have yn:=yn.mod rY (bD al1);have yn:=yn.later dO;refine ap aoD τ.dt yn (aP.K0 (R:=bQ) (by_:=8) (k:= [(l.getD k default).by_,(l.getD k default).kind,(l.getD k default).aQ,(l.getD k default).spot.x,(l.getD k default).spot.y,(l.getD k default).what]) pj [[.int .i64 ((l.getD k default).by_)], [.int .i64 ((l.getD k default).kind)], [.int .i64 ((l.getD k default).aQ)], [.int .i64 ((l.getD k default).spot.x)], [.int .i64 ((l.getD k default).spot.y)], [.int .i64 ((l.getD k default).what)]] Z (⟨⟨Z,(AN.1)⟩,⟨⟨Z,(AN.2.1)⟩,⟨⟨Z,(AN.2.2.1)⟩,⟨⟨Z,(AN.2.2.2.1)⟩,⟨⟨Z,(AN.2.2.2.2.1)⟩,⟨⟨Z,(AN.2.2.2.2.2)⟩,trivial⟩⟩⟩⟩⟩⟩) (by simp) (by simp)) Z Z (by simp only [aRW,aR2];omega) (by simp only [aRW,aR2];omega) fx.size Z λ se ane aqk gP Oo aJ3 aNX=> ?_;have:=gP.size;have gy:=Ext.mod fx gP (λ q I=>(yn.lt q I).1);have Bf:=λ q I=>(Oo.lt q I).2;have:=gP.size;refine va Z<|nl<|bY<|aV<|rg<|J (bad Z Z (bH (by omega)))<|vm Z<|nl<| ?_;have bc:nums (l.take (k+1))=nums (l.take k)++ [(l.getD k default).by_,(l.getD k default).kind,(l.getD k default).aQ,(l.getD k default).spot.x,(l.getD k default).spot.y,(l.getD k default).what]:=aAp (by omega);exact c' _ _ ⟨k+1,ane,aqk,Z,Z,gy,(by rw [bc];exact Oo),by omega⟩ (by omega) (.cons Z (.cons Z (.cons (by rw [bc];rfl) (.cons Z (.cons Z (.cons (b2 Z (by first | omega | rfl | (simp<;>omega))) .nil))))))
  ·refine dK<|dJ<|ei<|dI<|aV<|aj<|vm Z<|ca aes Z Z ((aBF (nums (l.take k)) _ _ _ (by omega) yn.has).mono ?_);rintro e uM ⟨rfl,ej⟩;refine ⟨_,Z, ?_⟩;have:=ej.size;have ll:=γ Ge ej;refine vm Z<|J (ex Z Z)<|J (ex Z Z)<|va Z<|va Z<|ai<|az<|aj<|vm Z<|J (bne Z Z)<|ai<|hM Z<|bt<|aj<|vm Z<|ca asY Z Z ((kD.Y1 _ (by rw [Pack.ID];have:=Pack.akp (nums (l.take k));omega) _).mono ?_);rintro e Nc ⟨rfl,zA⟩;refine ⟨_,Z, ?_⟩;have:=zA.size;have x7:=γ ll zA;refine va Z<|va Z<|ai<|rt<|a8 (.tmp Z (.tmp Z .nil))<| ?_;have lU:k=l.length:=by omega
   subst lU;exact ⟨by rw [SC (by simpa using vF),show hC l=0 by simpa using vF,aSA];rfl,x7⟩
theorem aAR (s:ByteArray) (w:World) (hs:s.size≤140737488351232):
  Calls prog 55 #[.string s] w (λ e w'=>∃ m k A c,B7 s m k∧e= .returned (.tuple #[.slice A m.length c, .int .i64 k])∧aL.rep.aF 51 48 w' w.heap.size (τ.ag A) A c m∧Ext w w'):=by
 refine Rd.cd (m:=5) (n:=61) func55 Z Z Z ?_;refine Rd.az<|Rd.rg<|va Z<|va Z<|nl<|Rd.aV<|Rd.az<|Rd.rg<|vm Z<|ca asZ Z Z ((kD.aAH s (by omega) _).mono ?_);rintro e cI ⟨rfl,e_⟩;refine ⟨_,Z, ?_⟩;have:=e_.size;have bk:=γ (Ext.bI w) e_;refine vm Z<|J (ex Z Z)<|J (ex Z Z)<|va Z<|va Z<|nl<|Rd.aV<|Rd.az<|Rd.az<|Rd.rg<|vm Z<|J (bne Z Z)<|nl<|Rd.aV<| ?_;refine Rd.ey Z (λ vF=> ?_) (λ vF=> ?_)
 ·refine Rd.az<|Rd.rg<|vm Z<|va Z<|va Z<|nl<|Rd.aV<|Rd.rt<|Rd.bO<|Rd.a8 (.tmp Z (.tmp Z .nil))<| ?_;exact ⟨[],_,none,0, .inl ⟨by simpa using vF,rfl,rfl⟩,Z,τ.aF.nil _,bk⟩
 ·refine Rd.fo<|Rd.aV<|Rd.az<|Rd.rg<|vm Z<|ca as0 Z Z ((auA ((kD.l3 s).1) (aAJ (by omega)) _).mono ?_);rintro e er ⟨out,j,NO,acV,KH,rfl,dg,cD⟩;refine ⟨_,Z, ?_⟩;have:=cD.size;have bK:=γ bk cD;have R_:=λ q I=>(dg.lt q I).2;have XW:=λ q I=>(dg.lt q I).1;have av9:=afp KH;refine vm Z<|J (ex Z Z)<|J (ex Z Z)<|va Z<|va Z<|nl<|Rd.aV<|Rd.az<|Rd.az<|Rd.rg<|vm Z<|J (bne Z Z)<|nl<|Rd.aV<| ?_;refine Rd.ey Z (λ kM=> ?_) (λ kM=> ?_)
  ·refine Rd.az<|Rd.rg<|vm Z<|va Z<|va Z<|nl<|Rd.aV<|Rd.rt<|Rd.bO<|Rd.a8 (.tmp Z (.tmp Z .nil))<| ?_;exact ⟨[],_,none,0, .inr ⟨by simpa using vF,out,j,KH, .inl ⟨by simpa using kM,rfl,rfl⟩⟩,Z,τ.aF.nil _,bK⟩
  ·have aKr:out.length≤1000:=av9;refine Rd.fo<|Rd.aV<|Rd.az<|Rd.az<|Rd.rg<|vm Z<|J (cm underlying22 Z)<|J (apS Z Z (by omega) (by omega))<|J (bne Z Z)<|nl<|Rd.aV<| ?_;refine Rd.ey Z (λ qB=> ?_) (λ qB=> ?_)
   ·refine Rd.az<|Rd.rg<|va Z<|va Z<|nl<|Rd.aV<|Rd.rt<|Rd.bO<|Rd.a8 (.tmp Z (.tmp Z .nil))<| ?_;exact ⟨[],_,none,0, .inr ⟨by simpa using vF,out,j,KH, .inr (.inl ⟨by simpa using kM,by omega,rfl,rfl⟩)⟩,Z,τ.aF.nil _,bK⟩
   ·obtain ⟨q,Lu⟩:∃ q,out.length=q * 6:=⟨out.length / 6,by omega⟩;refine Rd.fo<|Rd.aV<|Rd.az<|Rd.rg<|al Z as2 Z Z λ zy OK qg ayM NV=> ?_;have:=qg.size;have iQ:=γ bK qg;have aBN:=NV.lt;refine nl<|Rd.aV<|Rd.az<|Rd.az<|Rd.rg<|vm Z<|ca as3 Z Z ((aqR _ _ _ 6 _ (by omega)).mono ?_);rintro e wj ⟨eZ,gT,rfl,aa0,aa1,jP,Fe,hE⟩;refine ⟨_,Z, ?_⟩;have:=hE.size;have jW:=γ iQ hE;have mU:=aa0.lt;have vZ:=aa1.lt;refine nl<|Rd.aV<|Rd.bS<| ?_;have NV:=NV.later hE;have dg:=dg.later (γ qg hE);refine Rd.bI (enc:=(λ k:Fin q=> .slice (e1 NO (k.1 * 6+6) (k.1 * 6) 1) 6 6)) Z as4 (aqS q 6 out.length acV eZ gT NO _ (by omega) Lu dg.has.1 dg.has.2.1 _ aa0 aa1) (by omega) (by omega) (Ext.bI _) (by decide) Z Z (λ pre W=>∃ jZ:Option Addr,∃ co:Nat,aP W OK [.slice jZ (((pre.map λ k=>xM (fu out k.1))).length) co] 44 (0,0)∧aL.rep.aF 51 48 W wj.heap.size (τ.ag jZ) jZ co ((pre.map λ k=>xM (fu out k.1)))∧bQ.aF 3 8 W cI.heap.size (τ.ag NO) NO acV (out)∧Mod [OK] wj W) (by rintro aPC aHZ aH0 aHS ⟨jZ,co,nb,fc,dg,aFH⟩ Q7 Ht;exact ⟨jZ,co,nb.mod Q7 (λ I=>(Ht _ I).2 _ _ _ nb),fc.mod Q7 (λ q I hs=>by obtain ⟨_,_,_,hc⟩:=fc.O6 q I;exact (Ht q hs).2 _ _ _ hc),dg.mod Q7 (λ q I hs=>by obtain ⟨_,_,_,hc⟩:=dg.O6 q I;exact (Ht q hs).2 _ _ _ hc),aFH.md Q7 (λ q I=> .inr (Ht q I).1)⟩) ⟨none,0,NV,τ.aF.nil _,dg,Mod.bI _ _⟩ ?_ ?_
    ·intro aL5 pre d_ amc VZ awA;obtain ⟨jZ,co,nb,fc,dg,ZR⟩:=VZ;have yZ:∀ q∈ [OK],w.heap.size≤q:=λ q I=>by rw [aRP.1 I];omega
     have xl:yj wj.heap.size amc amc:=yj.bI _ _;have:=ZR.size;have akv:=nb.lt;have Zo:=λ q I=>(fc.lt q I).2;have Mf:=λ q I=>(fc.lt q I).1;have ix:=λ q I=>(dg.lt q I).2;have nE:=λ q I=>(dg.lt q I).1;have hx:=d_.2;have LI:d_.1 * 6+6≤q * 6:=by omega
     have aK8:pre.length<q:=awA;have rO:=adf (l:=out) (k:=d_.1) (by omega);have HN:=λ i=>aqT (Iz dg.has) d_.1 i;have nA:((pre.map λ k=>xM (fu out k.1))).length=pre.length:=aSp _;refine Rd.bS<| ?_;refine Rd.rd [(0,0),(3,0),(6,0),(9,0),(12,0),(15,0),(19,0),(21,2),(22,3),(23,3)] [0,1,2,3,4,5,6,7,8,9,10,11,12,13,14,15,16,17,18,19,20,21,22,23] (by kernel_rfl) (by kernel_rfl) ?_;refine bA Z (λ _ x=>ak Z ((nb.later x).one pM Z))<|aq Z (λ _=>aH Z)<|aq Z (λ _=>b_ 0 underlying22 dr Z Z ((dg.has.chunk (d_.1 * 6) (d_.1 * 6+6) (by omega) (by omega)).bP (bb 0 (by first | (rw [aRU,aSb];omega) | omega))) Z (by omega))<|bA Z (λ _ x=>ak Z (τ.aJ.fX gx (((dg.later x).has.chunk (d_.1 * 6) (d_.1 * 6+6) (by omega) (by omega)).cB (bb 0 (by first | (rw [aRU,aSb];omega) | omega))) (dn (l:=fu out d_.1) (u:=0) (by first | (rw [aRU,aSb];omega) | omega)) Z ba))<|aq Z (λ _=>aH Z)<|aq Z (λ _=>b_ 1 underlying22 dr Z Z ((dg.has.chunk (d_.1 * 6) (d_.1 * 6+6) (by omega) (by omega)).bP (bb 1 (by first | (rw [aRU,aSb];omega) | omega))) Z (by omega))<|bA Z (λ _ x=>ak Z (τ.aJ.fX gx (((dg.later x).has.chunk (d_.1 * 6) (d_.1 * 6+6) (by omega) (by omega)).cB (bb 1 (by first | (rw [aRU,aSb];omega) | omega))) (dn (l:=fu out d_.1) (u:=0) (by first | (rw [aRU,aSb];omega) | omega)) Z ba))<|aq Z (λ _=>aH Z)<|aq Z (λ _=>b_ 2 underlying22 dr Z Z ((dg.has.chunk (d_.1 * 6) (d_.1 * 6+6) (by omega) (by omega)).bP (bb 2 (by first | (rw [aRU,aSb];omega) | omega))) Z (by omega))<|bA Z (λ _ x=>ak Z (τ.aJ.fX gx (((dg.later x).has.chunk (d_.1 * 6) (d_.1 * 6+6) (by omega) (by omega)).cB (bb 2 (by first | (rw [aRU,aSb];omega) | omega))) (dn (l:=fu out d_.1) (u:=0) (by first | (rw [aRU,aSb];omega) | omega)) Z ba))<|aq Z (λ _=>aH Z)<|aq Z (λ _=>b_ 3 underlying22 dr Z Z ((dg.has.chunk (d_.1 * 6) (d_.1 * 6+6) (by omega) (by omega)).bP (bb 3 (by first | (rw [aRU,aSb];omega) | omega))) Z (by omega))<|bA Z (λ _ x=>ak Z (τ.aJ.fX gx (((dg.later x).has.chunk (d_.1 * 6) (d_.1 * 6+6) (by omega) (by omega)).cB (bb 3 (by first | (rw [aRU,aSb];omega) | omega))) (dn (l:=fu out d_.1) (u:=0) (by first | (rw [aRU,aSb];omega) | omega)) Z ba))<|aq Z (λ _=>aH Z)<|aq Z (λ _=>b_ 4 underlying22 dr Z Z ((dg.has.chunk (d_.1 * 6) (d_.1 * 6+6) (by omega) (by omega)).bP (bb 4 (by first | (rw [aRU,aSb];omega) | omega))) Z (by omega))<|bA Z (λ _ x=>ak Z (τ.aJ.fX gx (((dg.later x).has.chunk (d_.1 * 6) (d_.1 * 6+6) (by omega) (by omega)).cB (bb 4 (by first | (rw [aRU,aSb];omega) | omega))) (dn (l:=fu out d_.1) (u:=0) (by first | (rw [aRU,aSb];omega) | omega)) Z ba))<|rF (v:= .agg #[.int .i64 ((fu out d_.1).getD 3 0), .int .i64 ((fu out d_.1).getD 4 0)]) Z Z (λ _=>cE Z (by kernel_rfl)) Z<|aq Z (λ _=>aH Z)<|aq Z (λ _=>b_ 5 underlying22 dr Z Z ((dg.has.chunk (d_.1 * 6) (d_.1 * 6+6) (by omega) (by omega)).bP (bb 5 (by first | (rw [aRU,aSb];omega) | omega))) Z (by omega))<|bA Z (λ _ x=>ak Z (τ.aJ.fX gx (((dg.later x).has.chunk (d_.1 * 6) (d_.1 * 6+6) (by omega) (by omega)).cB (bb 5 (by first | (rw [aRU,aSb];omega) | omega))) (dn (l:=fu out d_.1) (u:=0) (by first | (rw [aRU,aSb];omega) | omega)) Z ba))<|rF (v:= .agg #[.int .i64 ((fu out d_.1).getD 0 0), .int .i64 ((fu out d_.1).getD 1 0), .int .i64 ((fu out d_.1).getD 2 0), .int .i64 ((fu out d_.1).getD 3 0), .int .i64 ((fu out d_.1).getD 4 0), .int .i64 ((fu out d_.1).getD 5 0)]) Z Z (λ _=>cE Z (by kernel_rfl)) Z<|e8 Z Z Z λ se eB Q hK=>cV (e:= 51) (cs:= [.int .i64 ((fu out d_.1).getD 0 0), .int .i64 ((fu out d_.1).getD 1 0), .int .i64 ((fu out d_.1).getD 2 0), .int .i64 ((fu out d_.1).getD 3 0), .int .i64 ((fu out d_.1).getD 4 0), .int .i64 ((fu out d_.1).getD 5 0)]) Z (λ _=>by kernel_rfl) Z λ uL apu gh ayP Jp=>hK _ _ ⟨γ eB gh, ?_⟩;have:=eB.size;have gy:=ZR.trans (Mod.bz eB);have:=gh.size;have jl:=gy.trans (Mod.bz gh);have YB:=Jp.lt;have fc:=fc.later (γ eB gh);have aA3:=fc;refine eo Z Z Z λ uM ej Q hK=>ap aoC τ.dt (fc.later ej) ((aP.gC (R:=aL.rep) (by_:=48) (q:=(⟨(fu out d_.1).getD 0 0,(fu out d_.1).getD 1 0,(fu out d_.1).getD 2 0,⟨(fu out d_.1).getD 3 0,(fu out d_.1).getD 4 0⟩,(fu out d_.1).getD 5 0⟩:aL)) Jp ⟨Z,⟨HN 0,HN 1,HN 2,HN 3,HN 4,HN 5⟩⟩ (by decide)).keep ej) Z Z (by simp only [aRW,aR2];omega) (by simp only [aRW,aR2];omega) (by have:=ej.size;omega) Z λ Nc aaq ac0 jR tL aut aN0=>hK _ _ ?_;have:=ej.size;have ll:=jl.trans (Mod.bz ej);have:=jR.size;have x7:=ll.md jR (λ q I=> .inr ((λ q I=>aSn (by omega) ((fc.later ej).lt q I).1) q I));have Dr:=λ q I=>(tL.lt q I).2;have:=jR.size;have nb:=nb.later (γ eB (γ gh ej));have nr:∀ q∈τ.ag jZ,q=OK→False:=λ q I Φ=>by (have:=Mf q I;omega)
     have nb:=nb.mod jR (λ I=>nr _ I rfl);have aA4:=nb;refine eo Z Z Z λ IU h6 Q hK=>st (new:= [.slice aaq (((pre.map λ k=>xM (fu out k.1))++ [(⟨(fu out d_.1).getD 0 0,(fu out d_.1).getD 1 0,(fu out d_.1).getD 2 0,⟨(fu out d_.1).getD 3 0,(fu out d_.1).getD 4 0⟩,(fu out d_.1).getD 5 0⟩:aL)]).length) ac0]) Z Z (nb.later h6) Z Ar Z Z Z λ qd k9 nb=>hK _ _ ?_;have:=h6.size;have uW:=x7.trans (Mod.bz h6);have:=k9.size;have hI:=uW.md k9 (λ q I=> .inl I);refine fn λ IX nS=> ?_;have:=nS.size;have sr:=hI.trans (Mod.bz nS);refine Rd.bY<| ?_;have xl:=xl.later (γ eB (γ gh ej));have xl:=xl.mod jR (λ q I=>(aA3.later ej).O6 q I);have xl:=xl.later h6;have xl:=xl.mod k9 (λ q I=>by rw [aRP.1 I];exact ⟨_,_,_,(aA4.later h6)⟩);have xl:=xl.later nS;have nb:=nb.later nS;have tL:=tL.later h6;have tL:=tL.mod k9 (λ q I h=>by have Φ:=aRP.1 h;exfalso;(exact aR4 (aut q I) (λ L7=>by (exact nr q L7 Φ)) (λ L7=>by omega)));have tL:=tL.later nS;have dg:=dg.later (γ eB (γ gh ej));have dg:=dg.mod jR (λ q I h=>by exfalso;(have:=Mf q h;(have:=ix q I;have:=R_ q I;omega)));have dg:=dg.later h6;have dg:=dg.mod k9 (λ q I h=>by have Φ:=aRP.1 h;exfalso;(have:=ix q I;have:=R_ q I;omega));have dg:=dg.later nS;exact λ _ _=>⟨xl,Mod.ayu ZR sr ⟨by omega,by omega⟩ aN aN,⟨aaq,ac0,(by rw [aSi];exact nb),(by rw [aSi];exact tL),dg,sr⟩⟩
    ·intro D aFy aQN aKb Ht VZ yS;obtain ⟨jZ,co,nb,fc,dg,amO⟩:=VZ;have V6:aFy=List.finRange q:=Ht;subst V6;have:=amO.size;have aFF:=Ext.mod jW amO (λ q I=>by rw [aRP.1 I];omega);refine gK.bY<|gK.aV<|gK.az<|gK.az<|gK.rg<|gK.iy (ak Z (nb.one pM Z)) Z<|gK.ca UR Z Z ((Yh _ _ (Im out q) _ fc.has).mono ?_);rintro e aE2 ⟨rfl,hU⟩;refine ⟨_,Z, ?_⟩;have:=hU.size;have SU:=γ aFF hU;refine gK.iy (ew Z) Z<|gK.nl<|gK.aV<|gK.az<|gK.rg<|gK.iy (aH Z) Z<|gK.iy (bne Z Z) Z<|gK.nl<|gK.aV<| ?_;refine gK.ey Z (λ KX=> ?_) (λ KX=> ?_)
     ·refine gK.az<|gK.rg<|gK.iy (aH Z) Z<|gK.iy (ew Z) Z<|gK.iy (ew Z) Z<|gK.nl<|gK.aV<|gK.rt<|gK.bO<| ?_;have yS:=yS.later hU;refine gK.a8 yS (.tmp Z (.tmp Z .nil))<| ?_;exact ⟨[],_,none,0, .inr ⟨by simpa using vF,out,j,KH, .inr (.inr ⟨by simpa using kM,by omega, .inl ⟨by rw [Il Lu];simpa using KX,rfl,by rw [Il Lu]⟩⟩)⟩,Z,τ.aF.nil _,Ext.mod SU yS.un (λ q I=>by rw [aRP.1 I];omega)⟩
     ·refine gK.fo<|gK.aV<|gK.az<|gK.rg<| ?_;have nb:=nb.later hU;refine gK.iy (ak Z (nb.one pM Z)) Z<|gK.iy (ew Z) Z<|gK.iy (ew Z) Z<|gK.nl<|gK.aV<|gK.rt<| ?_;have yS:=yS.later hU;refine gK.a8 yS (.tmp Z (.tmp Z .nil))<| ?_;have fc:=fc.later hU;exact ⟨_,_,jZ,co, .inr ⟨by simpa using vF,out,j,KH, .inr (.inr ⟨by simpa using kM,by omega, .inr ⟨by rw [Il Lu];simpa using KX,(Il Lu).symm,rfl⟩⟩)⟩,rfl,(fc.down (by omega)).mod yS.un (λ lF κ aa=>by have aw:=aRP.1 aa;subst aw;obtain ⟨_,_,_,hc⟩:=fc.O6 _ κ;rw [show _=_ from yS] at hc;exact nomatch hc),Ext.mod SU yS.un (λ q I=>by rw [aRP.1 I];omega)⟩
end
section
theorem adg {α:Type} (n:Nat):∀ (q:Nat) (l:List α),l.length=q * n→((List.finRange q).flatMap λ k=>(l.drop (k.1 * n)).take n)=l
 | 0,l,h=>by
  have:l= []:=aSq (by omega);subst this;rfl
 | q+1,l,h=>by
  rw [aTt] at h;have bF:=adg n q (l.drop n) (by rw [aSb];omega);rw [List.finRange_succ,aTp,List.flatMap_map];have e:(λ k:Fin q=>(l.drop (k.succ.1 * n)).take n)=λ k:Fin q=>((l.drop n).drop (k.1 * n)).take n:=by
   funext k
   rw [aVZ];congr 2;show (k.1+1) * n=_;rw [aTt];omega
  show (l.drop (0 * n)).take n++((List.finRange q).flatMap λ k:Fin q=>(l.drop (k.succ.1 * n)).take n)=l;rw [e,bF,aWh,aUl,aTT]
theorem Rl (o:aL) (l:List aL):nums (o::l)=o.by_::o.kind::o.aQ::o.spot.x::o.spot.y::o.what::nums l:=rfl
theorem ajL:∀ {a b:List aL},nums a=nums b→a=b
 | [], [],_=>rfl
 | [],o::b,h=>by rw [Rl] at h;exact nomatch h
 | o::a, [],h=>by rw [Rl] at h;exact nomatch h
 | o::a,p::b,h=>by
  rw [Rl,Rl] at h;injection h with κ h
  injection h with aa h
  injection h with aw h
  injection h with a6 h
  injection h with bL h
  injection h with ch h
  have e:o=p:=by
   obtain ⟨cf,a2,a3,⟨a4,a5⟩,GJ⟩:=o;obtain ⟨c1,c2,c3,⟨c4,c5⟩,dB⟩:=p;simp only at κ aa aw a6 bL ch;subst κ aa aw a6 bL ch;rfl
  rw [e,ajL h]
theorem azh {l:List Int} (h:l.length=6): [l.getD 0 0,l.getD 1 0,l.getD 2 0,l.getD 3 0,l.getD 4 0,l.getD 5 0]=l:=by
 match l,h with
 | [a,b,c,d,e,f],_=>rfl
theorem ajM {out:List Int} {q:Nat} (h:out.length=q * 6):nums (Im out q)=out:=by
 have e:nums (Im out q)=(List.finRange q).flatMap λ k=>(out.drop (k.1 * 6)).take 6:=by
  unfold nums Im;rw [List.flatMap_map];have bl:(λ k:Fin q=> [(xM (fu out k.1)).by_,(xM (fu out k.1)).kind,(xM (fu out k.1)).aQ,(xM (fu out k.1)).spot.x,(xM (fu out k.1)).spot.y,(xM (fu out k.1)).what])=λ k:Fin q=>(out.drop (k.1 * 6)).take 6:=by
   funext k
   have av:=k.2;have ch:=adf (l:=out) (k:=k.1) (by omega);have ef:fu out k.1=(out.drop (k.1 * 6)).take 6:=by unfold fu;congr 1;omega
   rw [← ef];exact azh ch
  exact aS4 (λ f=>(List.finRange q).flatMap f) bl
 rw [e];exact adg 6 q out h
theorem aAo {l:List aL} (h:∀ o∈l,o.ok):sA (nums l):=by
 intro x hx;obtain ⟨o,b7,hx⟩:=aVM.1 hx;obtain ⟨FA,o4,l2,nI,od,p_⟩:=h o b7;simp only [aSc,aTg,aTX] at hx;rcases hx with rfl | rfl | rfl | rfl | rfl | rfl
 ·exact bG.1 FA
 ·exact bG.1 o4
 ·exact bG.1 l2
 ·exact bG.1 nI
 ·exact bG.1 od
 ·exact bG.1 p_
theorem Ys {l m:List aL} {k:Int} (h:hC l=0) (dM:∀ o∈l,o.ok) (hR:B7 (iz l) m k):k=0∧m=l:=by
 have hw:=SC h;have hn:=Rm l;have xk:=(Ik h).1;have b7:kD.l3 (iz l)=(Pack.strOf (Pack.qU (nums l)),0):=by rw [hw];exact kD.aAI _
 have I:(nums l).length=l.length * 6:=by omega
 have hf:FD (nums l)=l:=by
  rw [Il I];exact ajL (ajM I)
 rcases hR with ⟨κ,_⟩ | ⟨_,out,j,bB,aa⟩
 ·rw [b7] at κ;exact absurd Z κ
 ·rw [b7] at bB;obtain ⟨ay,rfl⟩:=Pack.auK (aAo dM) (by omega) bB;rcases aa with ⟨aw,_⟩ | ⟨_,aw,_⟩ | ⟨_,_,⟨aw,_⟩ | ⟨aw,a6,bL⟩⟩
  ·exact absurd ay aw
  ·omega
  ·rw [hf] at aw;exact absurd h aw
  ·exact ⟨bL,by rw [a6,hf]⟩
theorem aCe {s:ByteArray} {m:List aL} {k:Int} (hR:B7 s m k):(k=0→hC m=0∧iz m=s)∧(k≠0→m= []):=by
 rcases hR with ⟨κ,aa,aw⟩ | ⟨κ,out,j,bB,aa⟩
 ·exact ⟨λ h=>absurd (aw ▸ h) κ,λ _=>aa⟩
 ·rcases aa with ⟨aw,a6,bL⟩ | ⟨_,aw,a6,bL⟩ | ⟨ay,ch,⟨aw,a6,bL⟩ | ⟨aw,a6,bL⟩⟩
  ·exact ⟨λ h=>absurd (bL ▸ h) aw,λ _=>a6⟩
  ·exact ⟨λ h=>by omega,λ _=>a6⟩
  ·exact ⟨λ h=>absurd (bL ▸ h) aw,λ _=>a6⟩
  ·refine ⟨λ _=> ?_,λ h=>absurd bL h⟩;subst a6;refine ⟨aw, ?_⟩;have I:out.length=(out.length / 6) * 6:=by omega
   rw [SC aw,Il I,ajM I,← (bB.2.1 ay).1];rcases kD.aj1 s with ⟨_,ef⟩ | ⟨ef,_⟩
   ·exact ef
   ·omega
theorem amD (l:List aL):(iz l).size≤140737488351232:=by
 by_cases h:hC l=0
 ·have κ:=(Ik h).1;have aa:=Rm l;have aw:=Pack.akp (nums l);rw [SC h,kD.RP,Pack.ID];omega
 ·rw [amC h];decide
def aOp:List aL:= [⟨1,2,7,⟨2, -1⟩,0⟩]
end
section
theorem avM {w:World} {cs:List Value} {a:ByteArray} (h:uC.has w cs a):cs= [.string a]:=aTQ (show cs= [.string a]∧a.size≤140737488351232 from h)
theorem aCc:∀ (j:Nat) u,(Value.string .empty).cells[j]? =some u→uC.raw j u:=by
 intro j u hu;have hu:(#[(Value.string .empty:Value)]:Array Value)[j]? =some u:=hu
 match j,hu with
 | 0,hu=>exact ⟨_,(aRR hu).symm,by decide⟩
 | j+1,hu=>cases hu
theorem ayf:(prog.info? 9).map (λ i=>(i.zero,i.size,i.bytes))=some (some (.string .empty),1,16):=by kernel_rfl
end
end Go.Proofs.YtlikikpgmmkjbaaGreat
namespace Go.Proofs.YtlikikpgmmkjbaaGreat.Tree
open Tryz
open Go.RowKit Go.Proofs.YtlikikpgmmkjbaaGreat Go.Proofs.YtlikikpgmmkjbaaGreat.fy Go.Proofs.YtlikikpgmmkjbaaGreat.Mark
def Hm (k:Nat):Nat→List (List UInt8)→List cX
 | 0,_=> []
 | e+1,l=>if k.testBit e then RG (l.take (2 ^ e))::Hm k e (l.drop (2 ^ e)) else Hm k e l
def O7 (l:List cX):List Value:=l.map fun x=>Value.int .u64 (U x)
def GW (_:Nat) (u:Value):Prop:=∃ n:Int,u= .int .u64 n
def aHz (k:Nat) (l:List ByteArray) (w:World) (e:Ending) (w':World):Prop :=
 ∃ A c,e= .returned (.tuple #[.slice A (Hm k 9 (lists l)).length c, .int .i64 0])∧Own w' w.heap.size 41 1 GW (.slice A (Hm k 9 (lists l)).length c) (Hm k 9 (lists l)).length (O7 (Hm k 9 (lists l)))∧Below w.heap.size w w'
end Go.Proofs.YtlikikpgmmkjbaaGreat.Tree
namespace Go.Proofs.YtlikikpgmmkjbaaGreat
open Tryz
end Go.Proofs.YtlikikpgmmkjbaaGreat
namespace Go.Proofs.YtlikikpgmmkjbaaGreat.Tree
open Tryz
open Go.RowKit Go.Proofs.YtlikikpgmmkjbaaGreat Go.Proofs.YtlikikpgmmkjbaaGreat.fy Go.Proofs.YtlikikpgmmkjbaaGreat.Mark
def ayq:List cX→cX
 | []=>0#64
 | x::r=>match r with
  | []=>x
  | y::t=>Iq x (ayq (y::t))
def aHA (w:World) (e:Ending) (w':World):Prop:=∃ (A:Option Addr) (n c:Nat) (k:Int),e= .returned (.tuple #[.slice A n c, .int .i64 k])∧Below w.heap.size w w'
def GS (_:Nat) (u:Value):Prop:=∃ s:ByteArray,u= .string s
def aGL (w:World) (n:Nat) (l:List ByteArray) (e:Ending) (w':World):Prop :=
 ∃ A c,e= .returned (.slice A n c)∧Own w' w.heap.size 9 1 GS (.slice A n c) n (aqB l)∧Below w.heap.size w w'
end Go.Proofs.YtlikikpgmmkjbaaGreat.Tree
namespace Go.Proofs.YtlikikpgmmkjbaaGreat
open Tryz
end Go.Proofs.YtlikikpgmmkjbaaGreat
namespace Go.Proofs.YtlikikpgmmkjbaaGreat.Tree
open Tryz
open Go.RowKit Go.Proofs.YtlikikpgmmkjbaaGreat Go.Proofs.YtlikikpgmmkjbaaGreat.fy Go.Proofs.YtlikikpgmmkjbaaGreat.Mark
def GV:Nat→cX→Nat→Nat→List cX→cX×Bool
 | 0,m,_,_,t=>(m,t.isEmpty)
 | f+1,m,at_,n,t =>
  if n=1 then (m,t.isEmpty) else
  match t.getLast? with
  | none=>(0#64,false)
  | some x=>if at_<l4 n then (Iq (GV f m at_ (l4 n) t.dropLast).1 x,(GV f m at_ (l4 n) t.dropLast).2)
   else (Iq x (GV f m (at_ - l4 n) (n - l4 n) t.dropLast).1,(GV f m (at_ - l4 n) (n - l4 n) t.dropLast).2)
def aGK (w:World) (r:cX×Bool) (e:Ending) (w':World):Prop:=e= .returned (.tuple #[.int .u64 (U r.1), .bool r.2])∧w=w'
def ag1 (root:cX) (s:List UInt8) (at_ n:Nat) (t:List cX):Bool:=(GV n (C3 s) at_ n t).2 && decide ((GV n (C3 s) at_ n t).1=root)
end Go.Proofs.YtlikikpgmmkjbaaGreat.Tree
namespace Go.Proofs.YtlikikpgmmkjbaaGreat
open Tryz
end Go.Proofs.YtlikikpgmmkjbaaGreat
namespace Go.Proofs.YtlikikpgmmkjbaaGreat.Tree
open Tryz
open Go.RowKit Go.Proofs.YtlikikpgmmkjbaaGreat Go.Proofs.YtlikikpgmmkjbaaGreat.fy Go.Proofs.YtlikikpgmmkjbaaGreat.Mark

def RY:Nat→List (List UInt8)→Nat→List cX
 | 0,_,_=> []
 | f+1,l,at_=>if l.length=1 then [] else
  if at_<l4 l.length then RY f (l.take (l4 l.length)) at_++ [RG (l.drop (l4 l.length))]
  else RY f (l.drop (l4 l.length)) (at_ - l4 l.length)++ [RG (l.take (l4 l.length))]
def aHW (w:World) (t:List cX) (e:Ending) (w':World):Prop:=∃ A c,e= .returned (.slice A t.length c)∧Own w' w.heap.size 41 1 GW (.slice A t.length c) t.length (O7 t)∧Below w.heap.size w w'
end Go.Proofs.YtlikikpgmmkjbaaGreat.Tree
namespace Go.Proofs.YtlikikpgmmkjbaaGreat
open Tryz
end Go.Proofs.YtlikikpgmmkjbaaGreat
namespace Go.Proofs.YtlikikpgmmkjbaaGreat.Tree
open Tryz
open Go.Proofs.YtlikikpgmmkjbaaGreat.fy Go.Proofs.YtlikikpgmmkjbaaGreat.Mark

def ad2:Nat→Nat→Nat→Nat
 | 0,_,_=>0
 | f+1,at_,n=>if n=1 then 0 else if at_<l4 n then ad2 f at_ (l4 n)+1 else ad2 f (at_ - l4 n) (n - l4 n)+1
def ala:Nat→Nat→Nat→List Bool
 | 0,_,_=> []
 | f+1,at_,n=>if n=1 then [] else if at_<l4 n then ala f at_ (l4 n)++ [false] else ala f (at_ - l4 n) (n - l4 n)++ [true]
def aDn (m:cX) (x:Bool×cX):cX:=if x.1 then Iq x.2 m else Iq m x.2
def along (sd:List Bool) (t:List cX) (m:cX) (k:Nat):cX:=((sd.zip t).take k).foldl aDn m
end Go.Proofs.YtlikikpgmmkjbaaGreat.Tree
namespace Go.Proofs.YtlikikpgmmkjbaaGreat
open Tryz
end Go.Proofs.YtlikikpgmmkjbaaGreat
namespace Go.Proofs.YtlikikpgmmkjbaaGreat.Tree
open Tryz
open Go.RowKit Go.Proofs.YtlikikpgmmkjbaaGreat Go.Proofs.YtlikikpgmmkjbaaGreat.fy Go.Proofs.YtlikikpgmmkjbaaGreat.Mark

def aHX (w:World) (t:List cX) (e:Ending) (w':World):Prop:=∃ A c,e= .returned (.tuple #[.slice A t.length c, .int .i64 0])∧Own w' w.heap.size 41 1 GW (.slice A t.length c) t.length (O7 t)∧Below w.heap.size w w'
def aGM (w:World) (n:Nat) (l:List cX) (e:Ending) (w':World):Prop :=
 ∃ A c,e= .returned (.slice A n c)∧Own w' w.heap.size 41 1 GW (.slice A n c) n (O7 l)∧Below w.heap.size w w'
end Go.Proofs.YtlikikpgmmkjbaaGreat.Tree
namespace Go.Proofs.YtlikikpgmmkjbaaGreat
open Tryz
section
open Go.Proofs.YtlikikpgmmkjbaaGreat.fy
def aHV (l:List ByteArray) (n k:Int) (t:List (BitVec 64)):Prop:=(k=0∧0≤n∧n<(l.length:Int)∧t=Tree.RY l.length (Tree.lists l) n.toNat)∨(k≠0∧¬(0≤n∧n<(l.length:Int))∧t= [])
def aHO (W:ah) (L:List (List aL)) (n e:Int) (r:BitVec 64):Prop :=
 (e=0∧lS W L∧0≤n∧n≤(L.length:Int)∧r=Tree.RG (Tree.lists ((L.take n.toNat).map iz)))∨(e≠0∧¬(lS W L∧0≤n∧n≤(L.length:Int))∧r=0)
def acb (W:ah) (L:List (List aL)) (n e:Int) (s:ByteArray) (t:List (BitVec 64)):Prop :=
 (e=0∧lS W L∧0≤n∧n<(L.length:Int)∧s=(L.map iz).getD n.toNat ByteArray.empty∧t=Tree.RY (L.map iz).length (Tree.lists (L.map iz)) n.toNat)∨(e≠0∧¬(lS W L∧0≤n∧n<(L.length:Int))∧s=GQ []∧t= [])
def aHU (r:BitVec 64) (n at_:Int) (s:ByteArray) (t:List (BitVec 64)) (m:List aL) (k:Int) (b:Bool):Prop :=
 (Tree.ag1 r s.data.toList at_.toNat n.toNat t=true∧B7 s m k∧b=(k == 0))∨(Tree.ag1 r s.data.toList at_.toNat n.toNat t=false∧m= []∧b=false∧k=0)
end
section
open Go.Proofs.YtlikikpgmmkjbaaGreat.fy
theorem NQ.out {W:ah} {L:List (List aL)} {n e:Int} {V:ah} (h:NQ W L n e V) (dM:lS W L) (aG:0≤n) (κ:n≤(L.length:Int)):e=0∧V=lG W (L.take n.toNat):=by
 rcases h with h | h
 ·exact ⟨h.1,h.2.2.2.2⟩
 ·exact absurd ⟨dM,aG,κ⟩ h.2.1
theorem auB (L:List (List aL)) {i:Nat} (h:i<L.length):(L.map iz).getD i ByteArray.empty=iz (L.getD i []):=by
 rw [aRQ,aRQ,aSa,aRT h];rfl
theorem acb.size {W:ah} {L:List (List aL)} {n e:Int} {s:ByteArray} {t:List (BitVec 64)} (h:acb W L n e s t):s.size≤140737488351232:=by
 rcases h with ⟨_,_,aG,κ,aa,_⟩ | ⟨_,_,aa,_⟩
 ·rw [aa,auB L (by omega)];exact amD _
 ·rw [aa];decide
theorem lS.aAM {W:ah} {L:List (List aL)} (h:lS W L) {i:Nat} (ar:i<L.length):hC (L.getD i [])=0:=by
 have κ:=(h.take i).2.2;have aa:=(h.take (i+1)).2.2;have aO:L[i]? =some (L.getD i []):=by rw [aRQ,aRT ar];rfl
 rw [RJ κ aO] at aa;exact (MV (RZ aa).1).1
def aPF:List (List aL):= [nN, []]
end
section
theorem Kc (A:Option Addr) (c:Nat) (l:List aL) (w:World) (h:aL.rep.aJ 48 w A c l):
  Calls prog 28 #[.slice A l.length c] w λ e w'=>∃ bM b8,e= .returned (.slice bM l.length b8)∧aL.rep.aF 51 48 w' w.heap.size (τ.ag bM) bM b8 l∧(bM=none↔A=none)∧Below w.heap.size w w':=by
 obtain ⟨i0,ar,oW,qH,qI⟩:=aUk aL.info;have RA:∀ (w:World) (a:Option Addr) (n c jJ b8:Nat),(binOp .eql 44 (.slice a n c) (.slice none jJ b8)).run prog w= .ok (.bool a.isNone) w:=λ w a n c jJ b8=>aTW w _ _ a n c jJ b8 underlying44;cases A with
 | none =>
  obtain rfl:c=0:=h.2.2.2.1 rfl;obtain rfl:l= []:=aSq (by have:=h.1;omega);go_enter func28,ntmps28;go_wp2_with fail
  go_ret;exact ⟨none,0,Z,τ.aF.nil _,by simp,aSm _ _⟩
 | some a =>
  have cC:Below w.heap.size w (w.alloc (.cells #[] 51)):=(aSm _ w).alloc (aR3 _) _;obtain ⟨n,fa⟩:∃ n,Hid (l.length=n):=⟨_,aRV rfl⟩;obtain ⟨κ,aa,aw,a6,ess,bL,ch⟩:=h.keep cC;have yh:=aRV bL;have oU:∀ u∈ess.flatten,u.oneCell'=true:=by
   intro u hu;obtain ⟨y,aK,hu⟩:=aSZ.1 hu;obtain ⟨a,ha⟩:=bL.left y aK;exact aL.rep.one ha u hu
  have qG:∀ (j:Nat) u,ess.flatten[j]? =some u→aL.rep.raw (j % aL.rep.size) u:=λ j u hu=>Hg bL (by decide) hu;rw [fa.out] at κ aw ch;have cv:=aRV ch;have jq:=aRV (Own.empty (e:= 51) (size:=aL.rep.size) (G:=aL.rep.raw) w (aR3 w.heap.size));clear h a6 bL ch;rw [fa.out];go_enter func28,ntmps28;go_wp2_with (at_builtin;refine I7 _ rfl _ _ 44 rfl w.heap.size 51 i0 aL.zero aL.rep.size 48 underlying44 ar oW qH qI rfl (by decide) aL.rep.raw aL.iE _ _ _ rfl jq.out (some a) n c ess.flatten rfl cv.out oU qG ?qc4 ?qc5 ?qc6 ?_)
  case qc4=>unfold maxLen;omega
  case qc5=>omega
  case qc6=>simp
  intro v' aW fg jF mM fL;have cQ:=cC.grown jF (by simp) (by intro k av;simp [Value.ownBlock] at av;omega);obtain ⟨cq,c1,rfl,hle,_,_,_,lz⟩:=fg.shape;have km:cq≠none:=by
   intro h;subst h;exact mM (lz Z)
  have aR:Hid (aL.rep.aF 51 48 aW w.heap.size (τ.ag cq) cq c1 l):=aRV (τ.aF.A9 aL.plain yh.out (by rw [fa.out];exact aw) (by rw [fa.out];simpa using fg));have tD:=aRV km;clear jF mM fL fg km lz oU qG;go_wp2_with fail
  go_ret;exact ⟨cq,c1,Z,aR.out,⟨λ h=>absurd h tD.out,λ h=>by cases h⟩,cQ⟩
end
end Go.Proofs.YtlikikpgmmkjbaaGreat
