import Derived.Test.YtmeeljmapailnaaGreatByt
set_option linter.unusedVariables false
set_option linter.unusedSimpArgs false
set_option maxRecDepth 100000
set_option maxHeartbeats 4000000
open Go.RowKit
namespace Go.Proofs.YtmeeljmapailnaaGreat
open Tryz
abbrev bco:=@List.mem_flatMap
abbrev bdi:=@List.map_replicate
def aJt (p:Int):UInt8:=([46,35,116,111]:List UInt8).getD p.toNat 0
def aIP (f:aL) (k j:Nat):List UInt8:=(((f.a_.drop (k * f.wide.toNat)).take (k * f.wide.toNat+f.wide.toNat - k * f.wide.toNat)).take j).map aJt
def txt (f:aL) (pre:List (Fin f.high.toNat)):List UInt8:=pre.flatMap λ k=>aIP f k.1 f.wide.toNat++ [10]
theorem awn (A:Option Addr) (len c:Nat) (i:Int) (w:World) (hi:1≤i):Calls prog 85 #[.slice A len c, .int .i64 i] w (λ e w'=>∃ fw hQ,e= .returned (.func (.func 122) #[] #[.pointer (some ⟨fw,0,none⟩), .pointer (some ⟨hQ,0,none⟩)])∧aM w' fw [.slice A len c] 22 (0,0)∧aM w' hQ [.int .i64 (i.toNat:Int)] 3 (0,0)∧w.heap.size≤fw∧fw<hQ∧Ext w w'):=by
 have e:i=(i.toNat:Int):=by omega
 have:=awm A len c i.toNat w (by omega);rw [← e] at this;rw [← e];exact this
def aQR (f:aL):ByteArray:=if f.a7≠0 then J6 [] else J6 (txt f (List.finRange f.high.toNat))
section
variable {l:List Int} {k c:Nat} {w:World} {A:Option Addr}
theorem atv:ez prog bu 22 3 8:=ez.ki (z:=Φ 0) (k:=1) underlying22 xI rfl rfl (by decide) (λ j u h=>Bw j u h)
theorem atu:ez prog aQ.rep 48 69 48:=ez.ki (z:=aQ.zero) (k:=6) underlying48 aQ.info rfl rfl (by decide) aQ.j8
def nums (l:List aQ):List Int:=l.flatMap λ o=> [o.by_,o.kind,o.bd,o.spot.x,o.spot.y,o.what]
theorem U1:∀ l:List aQ,(nums l).length=6 * l.length
 | []=>rfl
 | o::l=>by unfold nums;rw [aZV,aX9,aYc];have:=U1 l;unfold nums at this;rw [this];simp;omega
theorem aGP {l:List aQ} (h:k<l.length):nums (l.take (k+1))=nums (l.take k)++ [(l.getD k default).by_,(l.getD k default).kind,(l.getD k default).bd,(l.getD k default).spot.x,(l.getD k default).spot.y,(l.getD k default).what]:=by
 unfold nums;rw [x_ (d:=default) h,aZD];simp
def jL (l:List aQ):ByteArray:=if ix l≠0 then J6 [] else lW.xZ (Pack.strOf (Pack.sy (nums l)))
theorem aqm {l:List aQ} (h:¬ ix l=0):jL l=J6 []:=by unfold jL;rw [aYq h]
theorem We {l:List aQ} (h:ix l=0):jL l=lW.xZ (Pack.strOf (Pack.sy (nums l))):=by unfold jL;rw [aYi (by simpa using h)]
theorem Pack.aoe (l:List Int):(Pack.sy l).length≤10+10 * l.length:=by
 unfold Pack.sy;rw [aX9];have:=(Pack.DA l.length).1;have:=Pack.abB l;omega
theorem aIF (h:bu.aK 8 w A c l):Rd w 1 A l.length (xf l):=by
 obtain ⟨s1,s2,F7,adh,ess,DB,zM⟩:=h;rw [Zk DB] at zM;exact zM
theorem aDY (h:bu.aK 8 w A c l):uB l:=λ x hx=>b8.1 (LH h x hx)
theorem aIa (l:List Int) (A:Option Addr) (c:Nat) (w:World) (hn:l.length≤1000) (h:bu.aK 8 w A c l):Calls prog 123 #[.slice A l.length c] w λ e w'=>e= .returned (.tuple #[.string (Pack.strOf (Pack.sy l)),Φ 0])∧Ext w w' :=
 Pack.aod A l.length c l rfl hn (aDY h) w (aIF h)
theorem ajb {s:List UInt8} {out:List Int} {j:Int} (h:Pack.B2 s out j):out.length≤1000:=by
 obtain ⟨_,κ,τ⟩:=h;by_cases e:j=0
 ·exact (κ e).2
 ·rw [(τ e).1];exact aYX _
theorem aHl {B n:Nat} (h:Own w B 3 1 Q7 (.slice A n c) l.length (xf l)) (ah:l.length≤1000) (Tn:uB l):n=l.length∧bu.aF 3 8 w B (J.ab A) A c l:=by
 have hn:n=l.length:=by
  rcases h.2 with ⟨κ,τ⟩ | ⟨g,cap,cur,hv,_⟩
  ·injection κ with _ e _;rw [e,τ]
  ·injection hv
 subst hn;refine ⟨Z,J.aF.Br (ess:=l.map λ a=> [Value.int .i64 a]) aow (XV λ a ha=>b8.2 (Tn a ha)) (by omega) ?_⟩;have se:(l.map λ a=> [Value.int .i64 a]).flatten=l.map (Value.int .i64):=Zk (w:=w) (XV λ a ha=>b8.2 (Tn a ha));rw [se];exact h
theorem aAg (s:ByteArray) (hs:s.size≤9223372036854775807) (w:World):Calls prog 84 #[.string s] w (λ e w'=>∃ out k A c,Pack.B2 s.data.toList out k∧e= .returned (.tuple #[.slice A out.length c,Φ k])∧bu.aF 3 8 w' w.heap.size (J.ab A) A c out∧Ext w w'):=by
 refine (Pack.aAf s hs w).mono λ e w' he=> ?_;obtain ⟨out,k,A,n,c,κ,τ,au,aU⟩:=he;obtain ⟨rfl,bN⟩:=aHl au (ajb κ) κ.1;exact ⟨out,k,A,c,κ,τ,bN,aU⟩
theorem aG8 {s:ByteArray} (h:s.size≤140737488351232):(lW.np s).1.size≤9223372036854775807:=by
 rcases lW.anS s with ⟨_,τ⟩ | ⟨_,τ⟩
 ·have:=aZb ByteArray.size τ;rw [lW.Vq] at this;omega
 ·rw [τ];decide
def fW (l:List Int) (k:Nat):List Int:=(l.drop (k * 6)).take (k * 6+6 - k * 6)
theorem agR (h:k * 6+6≤l.length):(fW l k).length=6:=by unfold fW;rw [aYa,aYs];omega
theorem awp (h:∀ a∈l,ea a) (k i:Nat):ea ((fW l k).getD i 0):=by
 by_cases hi:i<(fW l k).length
 ·exact h _ (aZw (aZp (jk (d:=0) hi)))
 ·rw [aX7,aZE (by omega)];exact b8.2 (by decide)
def zF (n:List Int):aQ:=⟨n.getD 0 0,n.getD 1 0,n.getD 2 0,⟨n.getD 3 0,n.getD 4 0⟩,n.getD 5 0⟩
def Lv (out:List Int) (q:Nat):List aQ:=(List.finRange q).map λ k=>zF (fW out k.1)
def IQ (out:List Int):List aQ:=Lv out (out.length / 6)
theorem Lu {out:List Int} {q:Nat} (h:out.length=q * 6):IQ out=Lv out q:=by unfold IQ;rw [show out.length / 6=q by omega]
def EF (s:ByteArray) (m:List aQ) (k:Int):Prop :=
 ((lW.np s).2≠0∧m= []∧k=(lW.np s).2)∨((lW.np s).2=0∧∃ out j,Pack.B2 (lW.np s).1.data.toList out j∧((j≠0∧m= []∧k=j)∨(j=0∧out.length % 6≠0∧m= []∧k=4)∨
  (j=0∧out.length % 6=0∧((ix (IQ out)≠0∧m= []∧k=ix (IQ out))∨(ix (IQ out)=0∧m=IQ out∧k=0)))))
theorem aHn (A:Option Addr) (c:Nat) (l:List aQ) (w:World) (ah:aQ.rep.aK 48 w A c l):
  Calls prog 98 #[.slice A l.length c] w (λ e w'=>e= .returned (.tuple #[.string (jL l),Φ (ix l)])∧Ext w w'):=by
 have tD:=ah.fa;refine ch (n:=49) func98 Z Z Z ?_;refine aw<|va Z<|aJ Z<|av<|aB Z<|cM YU Z (acv _ _ l _ (ah.keep (Ext.cH w))) λ cG dS=> ?_;refine aJ Z<|aB Z<|cS Z Z<|aC<| ?_;refine eU Z (λ q1=> ?_) (λ q1=> ?_)
 ·refine aB Z<|va Z<|aY Z<|bD<|f_ Z Z Z<| ?_;exact ⟨by rw [aqm q1];rfl,dS⟩
 ·obtain ⟨aCw,_⟩:=Lt (by simpa using q1);refine bm<|aw<|aJ Z<|av<|aB Z<|aa (b5 underlying48 Z)<|vm Z<|aC<|bJ<| ?_;refine eV (λ cp cn aP=>∃ k:Nat,∃ QU:Option Addr,∃ Yr:Nat,cn= [(2, .string (J6 [])),(3,Φ 0),(5, .slice QU ((nums (l.take k)).length) Yr),(15, .slice A l.length c),(16,Φ (l.length:Int)),(17,Φ (k:Int))]∧cp=l.length - k∧Ext w aP∧bu.aF 3 8 aP w.heap.size (J.ab QU) QU Yr (nums (l.take k))∧(k≤l.length)) _ _ ⟨0,none,0,Z,Z,dS,(J.aF.nil _),by omega⟩ (eO Z Z Z) ?_;rintro aUs aOl VZ ⟨k,QU,Yr,rfl,rfl,vx,JV,ak⟩;have:=vx.size;have aKO:=bM JV.lt;have akK:=U1 (l.take k);have re:(l.take k).length=k:=by rw [aYa];omega
  refine aw<|dR Z Z<|aC<|av<| ?_;refine en Z (λ jA=> ?_) (λ jA=> ?_)
  ·have C7:=aQ.oD ah _ (jk (d:=default) (show k<l.length by omega));refine bm<|av<|bJ<|aw<|aa (cl k underlying48 gm Z Z ((ah.keep vx).bT (aV k)) Z (by omega))<|aa (ax Z (J.aK.iu OB ((ah.keep vx).cD (aV k)) (dt (l:=l) (u:=default) (by omega)) ky gm))<|cU SK Z λ wC uE fi K_ iB=> ?_;have k2:=γ vx fi;refine cF Z Z iB Z gm Z Z λ t_ tL iB=> ?_;have iP:=Ext.mod k2 tL bo;refine aC<|rg<|vm Z<|aa (aj vR Z)<|bk Z iB aT Z<|aa (aj qT Z)<|bk Z iB aT Z<|aa (aj E0 Z)<|bk Z iB aT Z<|aa (aj E1 Z)<|aa (aj jW Z)<|bk Z iB aT Z<|aa (aj E1 Z)<|aa (aj jX Z)<|bk Z iB aT Z<|aa (aj E2 Z)<|bk Z iB aT Z<|c7 (e:= 3) (cs:= [Φ ((l.getD k default).by_),Φ ((l.getD k default).kind),Φ ((l.getD k default).bd),Φ ((l.getD k default).spot.x),Φ ((l.getD k default).spot.y),Φ ((l.getD k default).what)]) Z (λ _=>by kernel_rfl) Z λ nR Nq ey abO uu=> ?_;have eZ:=γ iP ey;have JV:=((JV.later fi).mod tL (bU aKO)).later ey;refine ap atv J.dQ JV (aM.Ow (R:=bu) (by_:=8) (k:= [(l.getD k default).by_,(l.getD k default).kind,(l.getD k default).bd,(l.getD k default).spot.x,(l.getD k default).spot.y,(l.getD k default).what]) uu [[Φ ((l.getD k default).by_)], [Φ ((l.getD k default).kind)], [Φ ((l.getD k default).bd)], [Φ ((l.getD k default).spot.x)], [Φ ((l.getD k default).spot.y)], [Φ ((l.getD k default).what)]] Z (⟨⟨Z,(C7.1)⟩,⟨⟨Z,(C7.2.1)⟩,⟨⟨Z,(C7.2.2.1)⟩,⟨⟨Z,(C7.2.2.2.1)⟩,⟨⟨Z,(C7.2.2.2.2.1)⟩,⟨⟨Z,(C7.2.2.2.2.2)⟩,trivial⟩⟩⟩⟩⟩⟩) (by simp) (by simp)) Z Z (by simp only [aYc,aYh];omega) (by simp only [aYc,aYh];omega) eZ.size Z λ ub arh avQ jI XE aRa aU3=> ?_;have hH:=Ext.mod eZ jI (λ q I=>(JV.lt q I).1);refine va Z<|nl<|b1<|eM Z Z Z<| ?_;have aW:nums (l.take (k+1))=nums (l.take k)++ [(l.getD k default).by_,(l.getD k default).kind,(l.getD k default).bd,(l.getD k default).spot.x,(l.getD k default).spot.y,(l.getD k default).what]:=aGP (by omega);exact om _ _ ⟨k+1,arh,avQ,Z,Z,hH,(by rw [aW];exact XE),by omega⟩ (by omega) (.cons Z (.cons Z (.cons (by rw [aW];rfl) (eO Z Z Z))))
  ·refine dn<|dk<|dG<|dj<|aX<|aB Z<|cM ah4 Z (aIa (nums (l.take k)) _ _ _ (by omega) JV.has) λ wG fE=> ?_;have mH:=γ vx fE;refine vm Z<|bs Z Z<|bs Z Z<|va Z<|aJ Z<|av<|aB Z<|cS Z Z<|aC<|gj Z<|bm<|aB Z<|cM ayo Z (lW.adl _ (by rw [Pack.LM];have:=Pack.aoe (nums (l.take k));omega) _) λ L3 DZ=> ?_;have wO:=γ mH DZ;refine va Z<|aY Z<|f_ Z Z Z<| ?_;have mr:k=l.length:=by omega
   subst mr;exact ⟨by rw [We (by simpa using q1),show ix l=0 by simpa using q1,aYS];rfl,wO⟩
theorem aHg (s:ByteArray) (w:World) (hs:s.size≤140737488351232):
  Calls prog 44 #[.string s] w (λ e w'=>∃ m k A c,EF s m k∧e= .returned (.tuple #[.slice A m.length c,Φ k])∧aQ.rep.aF 69 48 w' w.heap.size (J.ab A) A c m∧Ext w w'):=by
 refine Rd.ch (m:=5) (n:=61) func44 Z Z Z ?_;refine Rd.av<|Rd.rg<|va Z<|va Z<|nl<|Rd.aX<|Rd.av<|Rd.rg<|vm Z<|cM ayp Z (lW.aG6 s (by omega) _) λ cG dS=> ?_;have:=dS.size;refine vm Z<|bs Z Z<|bs Z Z<|va Z<|va Z<|nl<|Rd.aX<|Rd.av<|Rd.av<|Rd.rg<|vm Z<|cS Z Z<|nl<|Rd.aX<| ?_;refine Rd.eU Z (λ q1=> ?_) (λ q1=> ?_)
 ·refine Rd.av<|Rd.rg<|vm Z<|va Z<|va Z<|nl<|Rd.aX<|Rd.rt<|Rd.bD<|Rd.cz (.tmp Z (.tmp Z .nil))<| ?_;exact ⟨[],_,none,0, .inl ⟨by simpa using q1,rfl,rfl⟩,Z,J.aF.nil _,dS⟩
 ·refine Rd.fu<|Rd.aX<|Rd.av<|Rd.rg<|vm Z<|ca ayq Z Z ((aAg ((lW.np s).1) (aG8 (by omega)) _).mono ?_);rintro e eC ⟨out,j,QR,Sd,Oc,rfl,ct,dm⟩;refine cu ?_;have:=dm.size;have bO:=γ dS dm;have VL:=bM ct.lt;have Ib:=ajb Oc;refine vm Z<|bs Z Z<|bs Z Z<|va Z<|va Z<|nl<|Rd.aX<|Rd.av<|Rd.av<|Rd.rg<|vm Z<|cS Z Z<|nl<|Rd.aX<| ?_;refine Rd.eU Z (λ hz=> ?_) (λ hz=> ?_)
  ·refine Rd.av<|Rd.rg<|vm Z<|va Z<|va Z<|nl<|Rd.aX<|Rd.rt<|Rd.bD<|Rd.cz (.tmp Z (.tmp Z .nil))<| ?_;exact ⟨[],_,none,0, .inr ⟨by simpa using q1,out,j,Oc, .inl ⟨by simpa using hz,rfl,rfl⟩⟩,Z,J.aF.nil _,bO⟩
  ·have aRJ:out.length≤1000:=Ib;refine Rd.fu<|Rd.aX<|Rd.av<|Rd.av<|Rd.rg<|vm Z<|aa (b5 underlying22 Z)<|aa (au8 Z Z (by omega) (by omega))<|cS Z Z<|nl<|Rd.aX<| ?_;refine Rd.eU Z (λ oI=> ?_) (λ oI=> ?_)
   ·refine Rd.av<|Rd.rg<|va Z<|va Z<|nl<|Rd.aX<|Rd.rt<|Rd.bD<|Rd.cz (.tmp Z (.tmp Z .nil))<| ?_;exact ⟨[],_,none,0, .inr ⟨by simpa using q1,out,j,Oc, .inr (.inl ⟨by simpa using hz,by omega,rfl,rfl⟩)⟩,Z,J.aF.nil _,bO⟩
   ·obtain ⟨q,OX⟩:∃ q,out.length=q * 6:=⟨out.length / 6,by omega⟩;refine Rd.fu<|Rd.aX<|Rd.av<|Rd.rg<|cU ays Z λ BF X3 wK aE0 QW=> ?_;have hZ:=γ bO wK;have aIj:=QW.lt;refine nl<|Rd.aX<|Rd.av<|Rd.av<|Rd.rg<|vm Z<|ca ayt Z Z ((awn _ _ _ 6 _ (by omega)).mono ?_);rintro e wE ⟨fw,hQ,rfl,afi,afj,kU,Iu,fK⟩;refine cu ?_;have:=fK.size;have lz:=γ hZ fK;have nt:=afi.lt;have Bt:=afj.lt;refine nl<|Rd.aX<|Rd.bJ<| ?_;have QW:=QW.later fK;have ct:=ct.later (γ wK fK);refine Rd.cH (enc:=(λ k:Fin q=> .slice (eF QR (k.1 * 6+6) (k.1 * 6) 1) 6 6)) Z ayu (awo q 6 out.length Sd fw hQ QR _ (by omega) OX ct.has.1 ct.has.2.1 _ afi afj) (by omega) (by omega) (Ext.cH _) (by decide) Z Z (λ pre W=>∃ k5:Option Addr,∃ co:Nat,aM W X3 [.slice k5 (((pre.map λ k=>zF (fW out k.1))).length) co] 48 (0,0)∧aQ.rep.aF 69 48 W wE.heap.size (J.ab k5) k5 co ((pre.map λ k=>zF (fW out k.1)))∧bu.aF 3 8 W cG.heap.size (J.ab QR) QR Sd (out)∧Mod [X3] wE W) (by rintro aWK aO5 aO6 aOY ⟨k5,co,o9,iR,ct,aMu⟩ UC KG;exact ⟨k5,co,o9.mod UC (λ I=>(KG _ I).2 _ _ _ o9),iR.mod UC (λ q I hs=>by obtain ⟨_,_,_,hc⟩:=iR.Sk q I;exact (KG q hs).2 _ _ _ hc),ct.mod UC (λ q I hs=>by obtain ⟨_,_,_,hc⟩:=ct.Sk q I;exact (KG q hs).2 _ _ _ hc),aMu.md UC (λ q I=> .inr (KG q I).1)⟩) ⟨none,0,QW,J.aF.nil _,ct,Mod.cH _ _⟩ ?_ ?_
    ·intro aTg pre eY apS Z6 aR3;obtain ⟨k5,co,o9,iR,ct,aeh⟩:=Z6;have Z7:Ao wE.heap.size apS apS:=Ao.cH _ _;have:=aeh.size;have Uy:=dx iR.lt;have pJ:=bM ct.lt;have hx:=eY.2;have kT:=agR (l:=out) (k:=eY.1) (by omega);have KZ:=λ i=>awp (LH ct.has) eY.1 i;have pg:((pre.map λ k=>zF (fW out k.1))).length=pre.length:=aYT _;refine Rd.bJ<| ?_;refine Rd.rd [(0,0),(3,0),(6,0),(9,0),(12,0),(15,0),(19,0),(21,2),(22,3),(23,3)] [0,1,2,3,4,5,6,7,8,9,10,11,12,13,14,15,16,17,18,19,20,21,22,23] (by kernel_rfl) (by kernel_rfl) ?_;refine cf Z Z o9 qU Z<|a1 Z Z<|aq Z (λ _=>cl 0 underlying22 dg Z Z ((ct.has.chunk (eY.1 * 6) (eY.1 * 6+6) (by omega) (by omega)).bT (aV 0 (by first | (rw [aYa,aYs];omega) | omega))) Z (by omega))<|dT Z (λ _ x=>ax Z (J.aK.fh fY (((ct.later x).has.chunk (eY.1 * 6) (eY.1 * 6+6) (by omega) (by omega)).cD (aV 0 (by first | (rw [aYa,aYs];omega) | omega))) (dt (l:=fW out eY.1) (u:=0) (by first | (rw [aYa,aYs];omega) | omega)) Z aT))<|a1 Z Z<|aq Z (λ _=>cl 1 underlying22 dg Z Z ((ct.has.chunk (eY.1 * 6) (eY.1 * 6+6) (by omega) (by omega)).bT (aV 1 (by first | (rw [aYa,aYs];omega) | omega))) Z (by omega))<|dT Z (λ _ x=>ax Z (J.aK.fh fY (((ct.later x).has.chunk (eY.1 * 6) (eY.1 * 6+6) (by omega) (by omega)).cD (aV 1 (by first | (rw [aYa,aYs];omega) | omega))) (dt (l:=fW out eY.1) (u:=0) (by first | (rw [aYa,aYs];omega) | omega)) Z aT))<|a1 Z Z<|aq Z (λ _=>cl 2 underlying22 dg Z Z ((ct.has.chunk (eY.1 * 6) (eY.1 * 6+6) (by omega) (by omega)).bT (aV 2 (by first | (rw [aYa,aYs];omega) | omega))) Z (by omega))<|dT Z (λ _ x=>ax Z (J.aK.fh fY (((ct.later x).has.chunk (eY.1 * 6) (eY.1 * 6+6) (by omega) (by omega)).cD (aV 2 (by first | (rw [aYa,aYs];omega) | omega))) (dt (l:=fW out eY.1) (u:=0) (by first | (rw [aYa,aYs];omega) | omega)) Z aT))<|a1 Z Z<|aq Z (λ _=>cl 3 underlying22 dg Z Z ((ct.has.chunk (eY.1 * 6) (eY.1 * 6+6) (by omega) (by omega)).bT (aV 3 (by first | (rw [aYa,aYs];omega) | omega))) Z (by omega))<|dT Z (λ _ x=>ax Z (J.aK.fh fY (((ct.later x).has.chunk (eY.1 * 6) (eY.1 * 6+6) (by omega) (by omega)).cD (aV 3 (by first | (rw [aYa,aYs];omega) | omega))) (dt (l:=fW out eY.1) (u:=0) (by first | (rw [aYa,aYs];omega) | omega)) Z aT))<|a1 Z Z<|aq Z (λ _=>cl 4 underlying22 dg Z Z ((ct.has.chunk (eY.1 * 6) (eY.1 * 6+6) (by omega) (by omega)).bT (aV 4 (by first | (rw [aYa,aYs];omega) | omega))) Z (by omega))<|dT Z (λ _ x=>ax Z (J.aK.fh fY (((ct.later x).has.chunk (eY.1 * 6) (eY.1 * 6+6) (by omega) (by omega)).cD (aV 4 (by first | (rw [aYa,aYs];omega) | omega))) (dt (l:=fW out eY.1) (u:=0) (by first | (rw [aYa,aYs];omega) | omega)) Z aT))<|r9 (v:= .agg #[Φ ((fW out eY.1).getD 3 0),Φ ((fW out eY.1).getD 4 0)]) Z Z (λ _=>lH Z (by kernel_rfl)) Z<|a1 Z Z<|aq Z (λ _=>cl 5 underlying22 dg Z Z ((ct.has.chunk (eY.1 * 6) (eY.1 * 6+6) (by omega) (by omega)).bT (aV 5 (by first | (rw [aYa,aYs];omega) | omega))) Z (by omega))<|dT Z (λ _ x=>ax Z (J.aK.fh fY (((ct.later x).has.chunk (eY.1 * 6) (eY.1 * 6+6) (by omega) (by omega)).cD (aV 5 (by first | (rw [aYa,aYs];omega) | omega))) (dt (l:=fW out eY.1) (u:=0) (by first | (rw [aYa,aYs];omega) | omega)) Z aT))<|r9 (v:= .agg #[Φ ((fW out eY.1).getD 0 0),Φ ((fW out eY.1).getD 1 0),Φ ((fW out eY.1).getD 2 0),Φ ((fW out eY.1).getD 3 0),Φ ((fW out eY.1).getD 4 0),Φ ((fW out eY.1).getD 5 0)]) Z Z (λ _=>lH Z (by kernel_rfl)) Z<|ff Z Z Z λ ub d_ Q hK=>c7 (e:= 69) (cs:= [Φ ((fW out eY.1).getD 0 0),Φ ((fW out eY.1).getD 1 0),Φ ((fW out eY.1).getD 2 0),Φ ((fW out eY.1).getD 3 0),Φ ((fW out eY.1).getD 4 0),Φ ((fW out eY.1).getD 5 0)]) Z (λ _=>by kernel_rfl) Z λ ud auH il aE5 Mu=>hK _ _ ⟨γ d_ il, ?_⟩;have:=d_.size;have hH:=aeh.trans (Mod.a8 d_);have hI:=hH.trans (Mod.a8 il);have aIp:=Mu.lt;have iR:=iR.later (γ d_ il);have aHu:=iR;refine dE Z Z Z λ wG fE Q hK=>ap atu J.dQ (iR.later fE) ((aM.gu (R:=aQ.rep) (by_:=48) (q:=(⟨(fW out eY.1).getD 0 0,(fW out eY.1).getD 1 0,(fW out eY.1).getD 2 0,⟨(fW out eY.1).getD 3 0,(fW out eY.1).getD 4 0⟩,(fW out eY.1).getD 5 0⟩:aQ)) Mu ⟨Z,⟨KZ 0,KZ 1,KZ 2,KZ 3,KZ 4,KZ 5⟩⟩ (by decide)).keep fE) Z Z (by simp only [aYc,aYh];omega) (by simp only [aYc,aYh];omega) (by have:=fE.size;omega) Z λ L3 aeL agG oT ED aAb aU8=>hK _ _ ?_;have:=fE.size;have mH:=hI.trans (Mod.a8 fE);have wO:=mH.md oT (λ q I=> .inr ((λ q I=>aYF (by omega) ((iR.later fE).lt q I).1) q I));have o9:=o9.later (γ d_ (γ il fE));have oG:∀ q∈J.ab k5,q=X3→False:=λ q I ag=>by (have:=Uy q I;omega)
     have o9:=o9.mod oT (λ I=>oG _ I rfl);have aHv:=o9;refine dE Z Z Z λ DM lS Q hK=>st (new:= [.slice aeL (((pre.map λ k=>zF (fW out k.1))++ [(⟨(fW out eY.1).getD 0 0,(fW out eY.1).getD 1 0,(fW out eY.1).getD 2 0,⟨(fW out eY.1).getD 3 0,(fW out eY.1).getD 4 0⟩,(fW out eY.1).getD 5 0⟩:aQ)]).length) agG]) Z Z (o9.later lS) Z CD Z Z Z λ ue oi o9=>hK _ _ ?_;have pR:=wO.trans (Mod.a8 lS);have j7:=pR.md oi (λ q I=> .inl I);refine fn λ Gu uj=> ?_;have pS:=j7.trans (Mod.a8 uj);refine Rd.b1<| ?_;have dA:=nw (oi) uj;have Z7:=(((Z7.later (γ d_ (γ il fE))).mod oT (λ q I=>(aHu.later fE).Sk q I)).later lS).mod dA (λ q I=>by rw [aYf.1 I];exact ⟨_,_,_,(aHv.later lS)⟩);have o9:=o9.later uj;have gG:=nw (kW lS oi) uj;have ED:=ED.mod gG (bl λ q I ag=>aYC (aAb q I) (λ Pr=>by (exact oG q Pr ag)) (λ Pr=>by omega));have ct:=((ct.later (γ d_ (γ il fE))).mod oT (λ q I h=>by exfalso;(have:=Uy q h;(have:=VL q I;omega)))).mod gG (bU VL);exact λ _ _=>⟨Z7,Mod.aEI aeh pS ⟨by omega,by omega⟩ aO aO,⟨aeL,agG,(by rw [aYA];exact o9),(by rw [aYA];exact ED),ct,pS⟩⟩
    ·intro D aMk aXa aRm KG Z6 A0;obtain ⟨k5,co,o9,iR,ct,aMr⟩:=Z6;have aae:aMk=List.finRange q:=KG;subst aae;have aMs:=Ext.mod lz aMr (λ q I=>by rw [aYf.1 I];omega);refine hJ.b1<|hJ.aX<|hJ.av<|hJ.av<|hJ.rg<|hJ.hW (ax Z (o9.one qU Z)) Z<|hJ.ca YU Z Z ((acv _ _ (Lv out q) _ iR.has).mono ?_);rintro e aLN ⟨rfl,nU⟩;refine cu ?_;have WA:=γ aMs nU;refine hJ.hW (ee Z) Z<|hJ.nl<|hJ.aX<|hJ.av<|hJ.rg<|hJ.hW (gw Z) Z<|hJ.hW (bne Z Z) Z<|hJ.nl<|hJ.aX<| ?_;refine hJ.eU Z (λ CY=> ?_) (λ CY=> ?_)
     ·refine hJ.av<|hJ.rg<|hJ.hW (gw Z) Z<|hJ.hW (ee Z) Z<|hJ.hW (ee Z) Z<|hJ.nl<|hJ.aX<|hJ.rt<|hJ.bD<| ?_;have A0:=A0.later nU;refine hJ.cz A0 (.tmp Z (.tmp Z .nil))<| ?_;exact ⟨[],_,none,0, .inr ⟨by simpa using q1,out,j,Oc, .inr (.inr ⟨by simpa using hz,by omega, .inl ⟨by rw [Lu OX];simpa using CY,rfl,by rw [Lu OX]⟩⟩)⟩,Z,J.aF.nil _,Ext.mod WA A0.un (λ q I=>by rw [aYf.1 I];omega)⟩
     ·refine hJ.fu<|hJ.aX<|hJ.av<|hJ.rg<| ?_;have o9:=o9.later nU;refine hJ.hW (ax Z (o9.one qU Z)) Z<|hJ.hW (ee Z) Z<|hJ.hW (ee Z) Z<|hJ.nl<|hJ.aX<|hJ.rt<| ?_;have A0:=A0.later nU;refine hJ.cz A0 (.tmp Z (.tmp Z .nil))<| ?_;have iR:=iR.later nU;exact ⟨_,_,k5,co, .inr ⟨by simpa using q1,out,j,Oc, .inr (.inr ⟨by simpa using hz,by omega, .inr ⟨by rw [Lu OX];simpa using CY,(Lu OX).symm,rfl⟩⟩)⟩,rfl,(iR.down (by omega)).mod A0.un (λ lM κ τ=>by have au:=aYf.1 τ;subst au;obtain ⟨_,_,_,hc⟩:=iR.Sk _ κ;rw [show _=_ from A0] at hc;exact nomatch hc),Ext.mod WA A0.un (λ q I=>by rw [aYf.1 I];omega)⟩
end
section
variable {l m:List aQ} {k:Int}
theorem agS {α:Type} (n:Nat):∀ (q:Nat) (l:List α),l.length=q * n→((List.finRange q).flatMap λ k=>(l.drop (k.1 * n)).take n)=l
 | 0,l,h=>by
  have:l= []:=aYx (by omega);subst this;rfl
 | q+1,l,h=>by
  rw [aZ1] at h;have bL:=agS n q (l.drop n) (by rw [aYs];omega);rw [List.finRange_succ,aZV,List.flatMap_map];have e:(λ k:Fin q=>(l.drop (k.succ.1 * n)).take n)=λ k:Fin q=>((l.drop n).drop (k.1 * n)).take n:=by
   funext k
   rw [bcB];congr 2;show (k.1+1) * n=_;rw [aZ1];omega
  show (l.drop (0 * n)).take n++((List.finRange q).flatMap λ k:Fin q=>(l.drop (k.succ.1 * n)).take n)=l;rw [e,bL,bb8,baB,aZ5]
theorem U0 (o:aQ) (l:List aQ):nums (o::l)=o.by_::o.kind::o.bd::o.spot.x::o.spot.y::o.what::nums l:=rfl
theorem anB:∀ {a b:List aQ},nums a=nums b→a=b
 | [], [],_=>rfl
 | [],o::b,h=>by rw [U0] at h;exact nomatch h
 | o::a, [],h=>by rw [U0] at h;exact nomatch h
 | o::a,p::b,h=>by
  rw [U0,U0] at h;injection h with κ h
  injection h with τ h
  injection h with au h
  injection h with aU h
  injection h with bN h
  injection h with cq h
  have e:o=p:=by
   obtain ⟨b2,a2,a3,⟨a4,a5⟩,EI⟩:=o;obtain ⟨c1,c2,c3,⟨c4,c5⟩,ek⟩:=p;simp only at κ τ au aU bN cq;subst κ τ au aU bN cq;rfl
  rw [e,anB h]
theorem aFC {l:List Int} (h:l.length=6): [l.getD 0 0,l.getD 1 0,l.getD 2 0,l.getD 3 0,l.getD 4 0,l.getD 5 0]=l:=by
 match l,h with
 | [a,b,c,d,e,f],_=>rfl
theorem anC {out:List Int} {q:Nat} (h:out.length=q * 6):nums (Lv out q)=out:=by
 have e:nums (Lv out q)=(List.finRange q).flatMap λ k=>(out.drop (k.1 * 6)).take 6:=by
  unfold nums Lv;rw [List.flatMap_map];have bb:(λ k:Fin q=> [(zF (fW out k.1)).by_,(zF (fW out k.1)).kind,(zF (fW out k.1)).bd,(zF (fW out k.1)).spot.x,(zF (fW out k.1)).spot.y,(zF (fW out k.1)).what])=λ k:Fin q=>(out.drop (k.1 * 6)).take 6:=by
   funext k
   have ak:=k.2;have cq:=agR (l:=out) (k:=k.1) (by omega);have ew:fW out k.1=(out.drop (k.1 * 6)).take 6:=by unfold fW;congr 1;omega
   rw [← ew];exact aFC cq
  exact aZb (λ f=>(List.finRange q).flatMap f) bb
 rw [e];exact agS 6 q out h
theorem aGO (h:∀ o∈l,o.ok):uB (nums l):=by
 intro x hx;obtain ⟨o,bK,hx⟩:=bco.1 hx;obtain ⟨IM,qm,nn,oX,pA,ry⟩:=h o bK;simp only [aYk,aZA,baq] at hx;rcases hx with rfl | rfl | rfl | rfl | rfl | rfl
 ·exact b8.1 IM
 ·exact b8.1 qm
 ·exact b8.1 nn
 ·exact b8.1 oX
 ·exact b8.1 pA
 ·exact b8.1 ry
theorem acH (h:ix l=0) (di:∀ o∈l,o.ok) (hR:EF (jL l) m k):k=0∧m=l:=by
 have hw:=We h;have hn:=U1 l;have y3:=(Lt h).1;have bK:lW.np (jL l)=(Pack.strOf (Pack.sy (nums l)),0):=by rw [hw];exact lW.aG7 _
 have I:(nums l).length=l.length * 6:=by omega
 have hf:IQ (nums l)=l:=by
  rw [Lu I];exact anB (anC I)
 rcases hR with ⟨κ,_⟩ | ⟨_,out,j,bP,τ⟩
 ·rw [bK] at κ;exact absurd Z κ
 ·rw [bK] at bP;obtain ⟨ay,rfl⟩:=Pack.aAt (aGO di) (by omega) bP;rcases τ with ⟨au,_⟩ | ⟨_,au,_⟩ | ⟨_,_,⟨au,_⟩ | ⟨au,aU,bN⟩⟩
  ·exact absurd ay au
  ·omega
  ·rw [hf] at au;exact absurd h au
  ·exact ⟨bN,by rw [aU,hf]⟩
theorem aIG {s:ByteArray} (hR:EF s m k):(k=0→ix m=0∧jL m=s)∧(k≠0→m= []):=by
 rcases hR with ⟨κ,τ,au⟩ | ⟨κ,out,j,bP,τ⟩
 ·exact ⟨λ h=>absurd (au ▸ h) κ,λ _=>τ⟩
 ·rcases τ with ⟨au,aU,bN⟩ | ⟨_,au,aU,bN⟩ | ⟨ay,cq,⟨au,aU,bN⟩ | ⟨au,aU,bN⟩⟩
  ·exact ⟨λ h=>absurd (bN ▸ h) au,λ _=>aU⟩
  ·exact ⟨λ h=>by omega,λ _=>aU⟩
  ·exact ⟨λ h=>absurd (bN ▸ h) au,λ _=>aU⟩
  ·refine ⟨λ _=> ?_,λ h=>absurd bN h⟩;subst aU;refine ⟨au, ?_⟩;have I:out.length=(out.length / 6) * 6:=by omega
   rw [We au,Lu I,anC I,← (bP.2.1 ay).1];rcases lW.anS s with ⟨_,ew⟩ | ⟨ew,_⟩
   ·exact ew
   ·omega
theorem aqn (l:List aQ):(jL l).size≤140737488351232:=by
 by_cases h:ix l=0
 ·have κ:=(Lt h).1;have τ:=U1 l;have au:=Pack.aoe (nums l);rw [We h,lW.Vq,Pack.LM];omega
 ·rw [aqm h];decide
def aVv:List aQ:= [⟨1,2,7,⟨2, -1⟩,0⟩]
end
theorem aI1 {A:Option Addr} {c lo s:Nat} (hA:∃ b,A=some ⟨b,0,none⟩):∃ a,eF A c lo s=some a:=by
 obtain ⟨b,rfl⟩:=hA;unfold eF;split
 ·exact ⟨_,Z⟩
 ·exact ⟨_,Z⟩
theorem KP {w:World} {cs:List Value} {a:ByteArray} (h:gi.has w cs a):cs= [.string a]:=bas (show cs= [.string a]∧a.size≤140737488351232 from h)
theorem Vf:∀ (j:Nat) u,(Value.string .empty).cells[j]? =some u→gi.raw j u:=by
 intro j u hu;have hu:(#[(Value.string .empty:Value)]:Array Value)[j]? =some u:=hu
 match j,hu with
 | 0,hu=>exact ⟨_,(aYd hu).symm,by decide⟩
 | j+1,hu=>cases hu
theorem Uf:(prog.info? 9).map (λ i=>(i.zero,i.size,i.bytes))=some (some (.string .empty),1,16):=by kernel_rfl
end Go.Proofs.YtmeeljmapailnaaGreat
namespace Go.Proofs.YtmeeljmapailnaaGreat.Tree
open Tryz
open Go.RowKit Go.Proofs.YtmeeljmapailnaaGreat Go.Proofs.YtmeeljmapailnaaGreat.fL Go.Proofs.YtmeeljmapailnaaGreat.Mark
def Ky (k:Nat):Nat→List (List UInt8)→List dy
 | 0,_=> []
 | e+1,l=>if k.testBit e then Vh (l.take (2 ^ e))::Ky k e (l.drop (2 ^ e)) else Ky k e l
def Sl (l:List dy):List Value:=l.map fun x=>Value.int .u64 (U x)
def GW (_:Nat) (u:Value):Prop:=∃ n:Int,u= .int .u64 n
def aOt (k:Nat) (l:List ByteArray) (w:World) (e:Ending) (w':World):Prop :=
 ∃ A c,e= .returned (.tuple #[.slice A (Ky k 9 (lists l)).length c, .int .i64 0])∧Own w' w.heap.size 130 1 GW (.slice A (Ky k 9 (lists l)).length c) (Ky k 9 (lists l)).length (Sl (Ky k 9 (lists l)))∧Below w.heap.size w w'
end Go.Proofs.YtmeeljmapailnaaGreat.Tree
namespace Go.Proofs.YtmeeljmapailnaaGreat.Tree
open Tryz
open Go.RowKit Go.Proofs.YtmeeljmapailnaaGreat Go.Proofs.YtmeeljmapailnaaGreat.fL Go.Proofs.YtmeeljmapailnaaGreat.Mark
def aEC:List dy→dy
 | []=>0#64
 | x::r=>match r with
  | []=>x
  | y::t=>LA x (aEC (y::t))
def aOu (w:World) (e:Ending) (w':World):Prop:=∃ (A:Option Addr) (n c:Nat) (k:Int),e= .returned (.tuple #[.slice A n c, .int .i64 k])∧Below w.heap.size w w'
def GS (_:Nat) (u:Value):Prop:=∃ s:ByteArray,u= .string s
def aNE (w:World) (n:Nat) (l:List ByteArray) (e:Ending) (w':World):Prop :=
 ∃ A c,e= .returned (.slice A n c)∧Own w' w.heap.size 9 1 GS (.slice A n c) n (av9 l)∧Below w.heap.size w w'
end Go.Proofs.YtmeeljmapailnaaGreat.Tree
namespace Go.Proofs.YtmeeljmapailnaaGreat.Tree
open Tryz
open Go.RowKit Go.Proofs.YtmeeljmapailnaaGreat Go.Proofs.YtmeeljmapailnaaGreat.fL Go.Proofs.YtmeeljmapailnaaGreat.Mark
def J_:Nat→dy→Nat→Nat→List dy→dy×Bool
 | 0,m,_,_,t=>(m,t.isEmpty)
 | f+1,m,at_,n,t =>
  if n=1 then (m,t.isEmpty) else
  match t.getLast? with
  | none=>(0#64,false)
  | some x=>if at_<nu n then (LA (J_ f m at_ (nu n) t.dropLast).1 x,(J_ f m at_ (nu n) t.dropLast).2)
   else (LA x (J_ f m (at_ - nu n) (n - nu n) t.dropLast).1,(J_ f m (at_ - nu n) (n - nu n) t.dropLast).2)
def aND (w:World) (r:dy×Bool) (e:Ending) (w':World):Prop:=e= .returned (.tuple #[.int .u64 (U r.1), .bool r.2])∧w=w'
def akR (root:dy) (s:List UInt8) (at_ n:Nat) (t:List dy):Bool:=(J_ n (FL s) at_ n t).2 && decide ((J_ n (FL s) at_ n t).1=root)
end Go.Proofs.YtmeeljmapailnaaGreat.Tree
namespace Go.Proofs.YtmeeljmapailnaaGreat.Tree
open Tryz
open Go.RowKit Go.Proofs.YtmeeljmapailnaaGreat Go.Proofs.YtmeeljmapailnaaGreat.fL Go.Proofs.YtmeeljmapailnaaGreat.Mark

def VB:Nat→List (List UInt8)→Nat→List dy
 | 0,_,_=> []
 | f+1,l,at_=>if l.length=1 then [] else
  if at_<nu l.length then VB f (l.take (nu l.length)) at_++ [Vh (l.drop (nu l.length))]
  else VB f (l.drop (nu l.length)) (at_ - nu l.length)++ [Vh (l.take (nu l.length))]
def aO2 (w:World) (t:List dy) (e:Ending) (w':World):Prop:=∃ A c,e= .returned (.slice A t.length c)∧Own w' w.heap.size 130 1 GW (.slice A t.length c) t.length (Sl t)∧Below w.heap.size w w'
end Go.Proofs.YtmeeljmapailnaaGreat.Tree
namespace Go.Proofs.YtmeeljmapailnaaGreat.Tree
open Tryz
open Go.Proofs.YtmeeljmapailnaaGreat.fL Go.Proofs.YtmeeljmapailnaaGreat.Mark

def ahE:Nat→Nat→Nat→Nat
 | 0,_,_=>0
 | f+1,at_,n=>if n=1 then 0 else if at_<nu n then ahE f at_ (nu n)+1 else ahE f (at_ - nu n) (n - nu n)+1
def aoT:Nat→Nat→Nat→List Bool
 | 0,_,_=> []
 | f+1,at_,n=>if n=1 then [] else if at_<nu n then aoT f at_ (nu n)++ [false] else aoT f (at_ - nu n) (n - nu n)++ [true]
def aJY (m:dy) (x:Bool×dy):dy:=if x.1 then LA x.2 m else LA m x.2
def along (sd:List Bool) (t:List dy) (m:dy) (k:Nat):dy:=((sd.zip t).take k).foldl aJY m
end Go.Proofs.YtmeeljmapailnaaGreat.Tree
namespace Go.Proofs.YtmeeljmapailnaaGreat.Tree
open Tryz
open Go.RowKit Go.Proofs.YtmeeljmapailnaaGreat Go.Proofs.YtmeeljmapailnaaGreat.fL Go.Proofs.YtmeeljmapailnaaGreat.Mark

def aO3 (w:World) (t:List dy) (e:Ending) (w':World):Prop:=∃ A c,e= .returned (.tuple #[.slice A t.length c, .int .i64 0])∧Own w' w.heap.size 130 1 GW (.slice A t.length c) t.length (Sl t)∧Below w.heap.size w w'
def aNF (w:World) (n:Nat) (l:List dy) (e:Ending) (w':World):Prop :=
 ∃ A c,e= .returned (.slice A n c)∧Own w' w.heap.size 130 1 GW (.slice A n c) n (Sl l)∧Below w.heap.size w w'
end Go.Proofs.YtmeeljmapailnaaGreat.Tree
namespace Go.Proofs.YtmeeljmapailnaaGreat
open Tryz
section
open Go.Proofs.YtmeeljmapailnaaGreat.fL
def aO1 (l:List ByteArray) (n k:Int) (t:List (BitVec 64)):Prop:=(k=0∧0≤n∧n<(l.length:Int)∧t=Tree.VB l.length (Tree.lists l) n.toNat)∨(k≠0∧¬(0≤n∧n<(l.length:Int))∧t= [])
def aOU (W:ai) (L:List (List aQ)) (n e:Int) (r:BitVec 64):Prop :=
 (e=0∧m_ W L∧0≤n∧n≤(L.length:Int)∧r=Tree.Vh (Tree.lists ((L.take n.toNat).map jL)))∨(e≠0∧¬(m_ W L∧0≤n∧n≤(L.length:Int))∧r=0)
def afW (W:ai) (L:List (List aQ)) (n e:Int) (s:ByteArray) (t:List (BitVec 64)):Prop :=
 (e=0∧m_ W L∧0≤n∧n<(L.length:Int)∧s=(L.map jL).getD n.toNat ByteArray.empty∧t=Tree.VB (L.map jL).length (Tree.lists (L.map jL)) n.toNat)∨(e≠0∧¬(m_ W L∧0≤n∧n<(L.length:Int))∧s=J6 []∧t= [])
def aO0 (r:BitVec 64) (n at_:Int) (s:ByteArray) (t:List (BitVec 64)) (m:List aQ) (k:Int) (b:Bool):Prop :=
 (Tree.akR r s.data.toList at_.toNat n.toNat t=true∧EF s m k∧b=(k == 0))∨(Tree.akR r s.data.toList at_.toNat n.toNat t=false∧m= []∧b=false∧k=0)
end
section
variable {n e:Int} {i:Nat}
open Go.Proofs.YtmeeljmapailnaaGreat.fL
theorem QT.out {W:ai} {L:List (List aQ)} {V:ai} (h:QT W L n e V) (di:m_ W L) (aG:0≤n) (κ:n≤(L.length:Int)):e=0∧V=mZ W (L.take n.toNat):=by
 rcases h with h | h
 ·exact ⟨h.1,h.2.2.2.2⟩
 ·exact absurd ⟨di,aG,κ⟩ h.2.1
theorem aAh (L:List (List aQ)) (h:i<L.length):(L.map jL).getD i ByteArray.empty=jL (L.getD i []):=by
 rw [aX7,aX7,aYv,aYb h];rfl
theorem afW.size {W:ai} {L:List (List aQ)} {s:ByteArray} {t:List (BitVec 64)} (h:afW W L n e s t):s.size≤140737488351232:=by
 rcases h with ⟨_,_,aG,κ,τ,_⟩ | ⟨_,_,τ,_⟩
 ·rw [τ,aAh L (by omega)];exact aqn _
 ·rw [τ];decide
theorem m_.aHb {W:ai} {L:List (List aQ)} (h:m_ W L) (hi:i<L.length):ix (L.getD i [])=0:=by
 have κ:=(h.take i).2.2;have τ:=(h.take (i+1)).2.2;have aN:L[i]? =some (L.getD i []):=by rw [aX7,aYb hi];rfl
 rw [Vk κ aN] at τ;exact (Qb (VC τ).1).1
def aWN:List (List aQ):= [o2, []]
end
theorem Nz (A:Option Addr) (c:Nat) (l:List aQ) (w:World) (h:aQ.rep.aK 48 w A c l):
  Calls prog 90 #[.slice A l.length c] w λ e w'=>∃ bQ cc,e= .returned (.slice bQ l.length cc)∧aQ.rep.aF 69 48 w' w.heap.size (J.ab bQ) bQ cc l∧(bQ=none↔A=none)∧Below w.heap.size w w':=by
 obtain ⟨i0,hi,pj,nL,qe⟩:=baD aQ.info;have PZ:∀ (w:World) (a:Option Addr) (n c jl cc:Nat),(binOp .eql 48 (.slice a n c) (.slice none jl cc)).run prog w= .ok (.bool a.isNone) w:=λ w a n c jl cc=>baa w _ _ a n c jl cc underlying48;cases A with
 | none =>
  obtain rfl:c=0:=h.2.2.2.1 rfl;obtain rfl:l= []:=aYx (by have:=h.1;omega);go_enter func90,ntmps90;go_wp2_with fail
  go_ret;exact ⟨none,0,Z,J.aF.nil _,by simp,aYG _ _⟩
 | some a =>
  have cV:Below w.heap.size w (w.alloc (.cells #[] 69)):=(aYG _ w).alloc (aYg _) _;obtain ⟨n,fr⟩:∃ n,Hid (l.length=n):=⟨_,aYe rfl⟩;obtain ⟨κ,τ,au,aU,ess,bN,cq⟩:=h.keep cV;have ux:=aYe bN;have mT:∀ u∈ess.flatten,u.oneCell'=true:=by
   intro u hu;obtain ⟨y,aE,hu⟩:=aZj.1 hu;obtain ⟨a,ha⟩:=bN.left y aE;exact aQ.rep.one ha u hu
  have ph:∀ (j:Nat) u,ess.flatten[j]? =some u→aQ.rep.raw (j % aQ.rep.size) u:=λ j u hu=>E7 bN (by decide) hu;rw [fr.out] at κ au cq;have dI:=aYe cq;have jO:=aYe (Own.empty (e:= 69) (size:=aQ.rep.size) (G:=aQ.rep.raw) w (aYg w.heap.size));clear h aU bN cq;rw [fr.out];go_enter func90,ntmps90;go_wp2_with (at_builtin;refine Jj _ rfl _ _ 48 rfl w.heap.size 69 i0 aQ.zero aQ.rep.size 48 underlying48 hi pj nL qe rfl (by decide) aQ.rep.raw aQ.j8 _ _ _ rfl jO.out (some a) n c ess.flatten rfl dI.out mT ph ?qc4 ?qc5 ?qc6 ?_)
  case qc4=>unfold maxLen;omega
  case qc5=>omega
  case qc6=>simp
  intro v' w1 fz jE mS fX;have dc:=cV.grown jE (by simp) (by intro k ak;simp [Value.ownBlock] at ak;omega);obtain ⟨cb,c1,rfl,hle,_,_,_,lL⟩:=fz.shape;have kS:cb≠none:=by
   intro h;subst h;exact mS (lL Z)
  have bq:Hid (aQ.rep.aF 69 48 w1 w.heap.size (J.ab cb) cb c1 l):=aYe (J.aF.Br aQ.plain ux.out (by rw [fr.out];exact au) (by rw [fr.out];simpa using fz));have sQ:=aYe kS;clear jE mS fX fz kS lL mT ph;go_wp2_with fail
  go_ret;exact ⟨cb,c1,Z,bq.out,⟨λ h=>absurd h sQ.out,λ h=>by cases h⟩,dc⟩
section
variable {q:Nat} {v:iC}
theorem afX:ez prog qs 30 48 24:=ez.ki (z:= .slice none 0 0) (k:=1) underlying30 abz rfl rfl (by decide) (λ j u h=>ac2 j u h)
open Go.Proofs.YtmeeljmapailnaaGreat.fL
def mD (T:List iC):List Nat:=T.flatMap λ v:iC=>J.ab v.a
def ju (w:World) (aA:Nat) (T:List iC) (L:List (List aQ)):Prop:=T.length=L.length∧∀ (i:Nat) (v:iC),T[i]? =some v→∃ l:List aQ,L[i]? =some l∧v.n=l.length∧aQ.rep.aF 69 48 w aA (J.ab v.a) v.a v.c l
theorem ju.nil (w:World) (aA:Nat):ju w aA [] []:=⟨rfl,λ i v h=>by simp at h⟩
theorem apm {T:List iC} (h:q∈mD T):∃ (i:Nat) (v:iC),T[i]? =some v∧q∈J.ab v.a:=by
 obtain ⟨v,hv,I⟩:=bco.1 h;obtain ⟨i,hi,rfl⟩:=aY9.1 hv;exact ⟨i,_,aYb hi,I⟩
theorem apn {T:List iC} {i:Nat} (h:T[i]? =some v) (I:q∈J.ab v.a):q∈mD T:=bco.2 ⟨v,aYR h,I⟩
theorem Qf {T:List iC} (h:q∈mD (T++ [v])):q∈mD T∨q∈J.ab v.a:=by
 unfold mD at h ⊢;rw [aZD,aYo] at h;exact h.imp id λ h=>by simpa using h
section
variable {w w':World} {aA:Nat} {T:List iC} {L:List (List aQ)}
theorem ju.later (h:ju w aA T L) (x:Ext w w'):ju w' aA T L:=⟨h.1,λ i v hi=>by
 obtain ⟨l,κ,τ,au⟩:=h.2 i v hi;exact ⟨l,κ,τ,au.later x⟩⟩
theorem ju.mod {S:List Nat} (h:ju w aA T L) (m:Mod S w w') (hd:∀ q∈mD T,q∉S):ju w' aA T L:=⟨h.1,λ i v hi=>by
 obtain ⟨l,κ,τ,au⟩:=h.2 i v hi;exact ⟨l,κ,τ,au.mod m λ q I=>hd q (apn hi I)⟩⟩
theorem ju.down {Z':Nat} (h:ju w aA T L) (bc:Z'≤aA):ju w Z' T L:=⟨h.1,λ i v hi=>by
 obtain ⟨l,κ,τ,au⟩:=h.2 i v hi;exact ⟨l,κ,τ,au.down bc⟩⟩
theorem ju.lt (h:ju w aA T L):∀ q∈mD T,aA≤q∧q<w.heap.size:=λ q I=>by
 obtain ⟨i,v,hi,I⟩:=apm I;obtain ⟨l,κ,τ,au⟩:=h.2 i v hi;exact au.lt q I
theorem ju.snoc {A:Option Addr} {c:Nat} {l:List aQ} (h:ju w aA T L) (o:aQ.rep.aF 69 48 w aA (J.ab A) A c l):ju w aA (T++ [⟨A,l.length,c⟩]) (L++ [l]):=⟨by simp [h.1],λ i v hi=>by
 rcases aZc i T.length with bF | tz
 ·rw [aYw bF] at hi;obtain ⟨wa,κ,τ,au⟩:=h.2 i v hi;exact ⟨wa,by rw [aYw (by rw [← h.1];exact bF)];exact κ,τ,au⟩
 ·rw [aYy tz] at hi;have aG:i - T.length=0:=by
   rcases baO (i - T.length) with aG | aG
   ·exact aG
   ·rw [aZE (by simp;omega)] at hi;cases hi
  rw [aG] at hi;obtain rfl:=aYd (show some (⟨A,l.length,c⟩:iC)=some v from hi);refine ⟨l,by rw [aYy (by rw [← h.1];exact tz),← h.1,aG];rfl,rfl,o⟩⟩
theorem ju.apj (h:ju w aA T L):oA w T L:=⟨h.1,λ i v hi=>by
 obtain ⟨l,κ,τ,au⟩:=h.2 i v hi;exact ⟨l,κ,τ,au.has⟩⟩
end
def asT (W:ai) (L:List (List aQ)) (l:List aQ) (e:Int) (V:ai) (Ap:List (List aQ)):Prop :=
 (e=0∧m_ W L∧L.length<200∧iZ (mZ W L) l=0∧V=W∧Ap=L++ [l])∨(e≠0∧¬(m_ W L∧L.length<200∧iZ (mZ W L) l=0)∧V=ai.zero∧Ap= [])
theorem acn (a:ai.b7) (W:ai) (A:Option Addr) (c:Nat) (T:List iC) (L:List (List aQ)) (sN:Option Addr) (yU:Nat) (l:List aQ) (w:World) (bZ:ai.Has w a W) (cB:qs.aK 24 w A c T) (dY:oA w T L) (ah:aQ.rep.aK 48 w sN yU l):
  Calls prog 97 #[.agg #[Φ W.field.wide,Φ W.field.high, .slice a.P W.field.a_.length a.p, .slice a.B W.bf.length a.b, .slice a.S W.bE.length a.s, .slice a.M W.bX.length a.m, .slice a.T W.ao.length a.t,Φ W.next,Φ W.now, .slice A T.length c], .slice sN l.length yU] w (λ e w'=>∃ (e':Int) (a':ai.b7) (V:ai) (bQ:Option Addr) (cc:Nat) (k9:List iC) (Ap:List (List aQ)),e= .returned (.tuple #[.agg #[Φ V.field.wide,Φ V.field.high, .slice a'.P V.field.a_.length a'.p, .slice a'.B V.bf.length a'.b, .slice a'.S V.bE.length a'.s, .slice a'.M V.bX.length a'.m, .slice a'.T V.ao.length a'.t,Φ V.next,Φ V.now, .slice bQ k9.length cc],Φ e'])∧asT W L l e' V Ap∧bH w' w.heap.size a' V∧qs.aF 48 24 w' w.heap.size (J.ab bQ) bQ cc k9∧ju w' w.heap.size k9 Ap∧(∀ q∈bH.cR a',q∉J.ab bQ∧q∉mD k9)∧(∀ q∈J.ab bQ,q∉mD k9)∧Ext w w'):=by
 have Ie:=cB.fa;refine ch (n:=79) func97 Z Z Z ?_;refine dZ Z Z λ cG bB aR d' ae=> ?_;have:=aR.size;have hE:=ae.lt;refine cU YX Z λ eC cJ bt hP ar=> ?_;have:=bt.size;have bO:=γ aR bt;have mB:=ar.lt;refine aJ Z<|aw<|aa (aj Kh Z)<| ?_;have ae:=ae.later bt;refine aa (ax Z (ae.par [Φ W.field.wide,Φ W.field.high, .slice a.P W.field.a_.length a.p, .slice a.B W.bf.length a.b, .slice a.S W.bE.length a.s, .slice a.M W.bX.length a.m, .slice a.T W.ao.length a.t,Φ W.next,Φ W.now] dz cd Z))<|aa (aj vS Z)<|bk Z ae AR Z<|ca HI Z Z ((IY a W _ _ T L _ (bZ.keep bO) (cB.keep bO) (dY.keep bO)).mono ?_);rintro e wE ⟨yy,gA,eA,WD,ave,aGv,rfl,OY,uz,Xo,aaE,fK⟩;refine cu ?_;have:=fK.size;have lz:=γ bO fK;have ou:=bM uz.lt;have oe:=dx uz.lt;have sA:=bM Xo.lt;have wg:=dx Xo.lt;have aQw:∀ q∈J.ab WD,q∈bH.cR gA→False:=aaE;have aQI:∀ q∈bH.cR gA,q∈J.ab WD→False:=λ q κ τ=>aaE q τ κ;refine vm Z<|bs Z Z<|bs Z Z<|bs Z Z<|cU nG Z λ vh auG fp aE2 GU=> ?_;have:=fp.size;have ks:=γ lz fp;have aV5:=GU.lt;refine st Z Z GU Z cd Z Z Z λ BG Bk GU=> ?_;have:=Bk.size;have o7:=Ext.mod ks Bk bo;refine va Z<|aJ Z<|av<|aB Z<|cS Z Z<|aC<| ?_;refine eU Z (λ qc=> ?_) (λ qc=> ?_)
 ·refine aw<|aa (v:= .agg #[Φ 0,Φ 0, .slice none 0 0, .slice none 0 0, .slice none 0 0, .slice none 0 0, .slice none 0 0,Φ 0,Φ 0, .slice none 0 0]) (eu Z)<|vm Z<| ?_;have ar:=(ar.later (γ fK fp)).mod Bk aO;refine cF Z Z ar Z qV Z Z λ Gs og ar=> ?_;have:=og.size;have oy:=Ext.mod o7 og bo;refine aY Z<|bD<|cz (.cell Z (ar.all AS qV) (.tmp Z .nil))<| ?_;exact ⟨yy,⟨none,none,none,none,none,0,0,0,0,0⟩,ai.zero,none,0, [], [],Z, .inr ⟨(by simpa using qc),λ bw=>(show ¬ yy=0 by simpa using qc) (OY.Vu.2 bw.1),Z,Z⟩,bH.zero _ _,J.aF.nil _,ju.nil _ _,λ q I=>⟨λ h=>by simp [J.ab] at h,λ h=>by simp [mD] at h⟩,λ q I=>by simp [J.ab] at I,oy⟩
 ·obtain ⟨qm,nn,oX,pA,ry⟩:=OY.ok (by simpa using qc);have akq:=dY.1;refine bm<|av<|aw<|aa (aj vS Z)<| ?_;have ae:=(ae.later (γ fK fp)).mod Bk aO;refine bk Z ae AR Z<|aa (b5 underlying30 Z)<|aa (beq Z Z)<|aC<| ?_;refine iE Z (λ xz=> ?_) (λ xz=> ?_)
  ·refine aw<|aa (v:= .agg #[Φ 0,Φ 0, .slice none 0 0, .slice none 0 0, .slice none 0 0, .slice none 0 0, .slice none 0 0,Φ 0,Φ 0, .slice none 0 0]) (eu Z)<| ?_;have ar:=(ar.later (γ fK fp)).mod Bk aO;refine cF Z Z ar Z qV Z Z λ DL FU ar=> ?_;have:=FU.size;have nz:=Ext.mod o7 FU bo;refine aY Z<|bD<|cz (.cell Z (ar.all AS qV) (.tmp Z .nil))<| ?_;exact ⟨6,⟨none,none,none,none,none,0,0,0,0,0⟩,ai.zero,none,0, [], [],Z, .inr ⟨(by decide),λ bw=>by have:=bw.2.1;have Oz:=xz;omega,rfl,rfl⟩,bH.zero _ _,J.aF.nil _,ju.nil _ _,λ q I=>⟨λ h=>by simp [J.ab] at h,λ h=>by simp [mD] at h⟩,λ q I=>by simp [J.ab] at I,nz⟩
  ·have bF:L.length<200:=by have Oz:=xz;omega
   refine bm<|av<|aw<|aa (ax Z (GU.all dz cd))<|vm Z<| ?_;have uz:=(uz.later fp).mod Bk (bU ou);refine ca YW Z Z ((Qg gA eA _ _ l _ uz.has (ah.keep o7)).mono ?_);rintro e DM ⟨J1,Mn,avj,Mo,avk,Mp,avl,rfl,afu,Ar,At,Au,aaF,lS⟩;refine cu ?_;have:=lS.size;have pR:=γ o7 lS;have aW2:=bM afu.lt;have aUg:=dx afu.lt;have LV:=bM Ar.lt;have aUh:=dx Ar.lt;have Gk:=bM At.lt;have aUi:=dx At.lt;have LW:=bM Au.lt;have aUj:=dx Au.lt;have aw3:∀ q∈J.ab Mn,q∈bH.cR J1→False:=λ q I=>aaF q (.inl I);have aQJ:∀ q∈bH.cR J1,q∈J.ab Mn→False:=λ q κ τ=>aw3 q τ κ;have aw4:∀ q∈J.ab Mo,q∈bH.cR J1→False:=λ q I=>aaF q (.inr (.inl I));have aQK:∀ q∈bH.cR J1,q∈J.ab Mo→False:=λ q κ τ=>aw4 q τ κ;have aw5:∀ q∈J.ab Mp,q∈bH.cR J1→False:=λ q I=>aaF q (.inr (.inr I));have aQL:∀ q∈bH.cR J1,q∈J.ab Mp→False:=λ q κ τ=>aw5 q τ κ;refine vm Z<|bs Z Z<|bs Z Z<|bs Z Z<|cU nG Z λ ad3 aPJ fq aTU Mw=> ?_;have:=fq.size;have Jx:=γ pR fq;have aIu:=Mw.lt;refine cU Kg Z λ L8 agk iM amL oz=> ?_;have:=iM.size;have o8:=γ Jx iM;have acT:=oz.lt;have Mw:=Mw.later iM;refine st Z Z Mw Z cd Z Z Z λ Qq jJ Mw=> ?_;have:=jJ.size;have Aa:=Ext.mod o8 jJ bo;have oz:=oz.mod jJ aO;refine cF Z Z oz Z CC Z Z λ Mb uZ oz=> ?_;have:=uZ.size;have vy:=Ext.mod Aa uZ bo;refine aJ Z<|aB Z<|cS Z Z<|aC<| ?_;refine eU Z (λ Tz=> ?_) (λ Tz=> ?_)
   ·refine aw<|aa (v:= .agg #[Φ 0,Φ 0, .slice none 0 0, .slice none 0 0, .slice none 0 0, .slice none 0 0, .slice none 0 0,Φ 0,Φ 0, .slice none 0 0]) (eu Z)<|vm Z<| ?_;have ar:=((((ar.later (γ fK fp)).mod Bk aO).later (γ lS (γ fq iM))).mod jJ aO).mod uZ aO;refine cF Z Z ar Z qV Z Z λ Qr mW ar=> ?_;have:=mW.size;have rR:=Ext.mod vy mW bo;refine aY Z<|bD<|cz (.cell Z (ar.all AS qV) (.tmp Z .nil))<| ?_;exact ⟨iZ eA l,⟨none,none,none,none,none,0,0,0,0,0⟩,ai.zero,none,0, [], [],Z, .inr ⟨(by simpa using Tz),λ bw=>absurd bw.2.2 (by rw [← pA];simpa using Tz),Z,Z⟩,bH.zero _ _,J.aF.nil _,ju.nil _ _,λ q I=>⟨λ h=>by simp [J.ab] at h,λ h=>by simp [mD] at h⟩,λ q I=>by simp [J.ab] at I,rR⟩
   ·have Ip:iZ (mZ W L) l=0:=by rw [← pA];simpa using Tz
    refine bm<|aw<|aa (aj Kh Z)<| ?_;have ae:=((ae.later (γ lS (γ fq iM))).mod jJ aO).mod uZ aO;refine aa (ax Z (ae.par [Φ W.field.wide,Φ W.field.high, .slice a.P W.field.a_.length a.p, .slice a.B W.bf.length a.b, .slice a.S W.bE.length a.s, .slice a.M W.bX.length a.m, .slice a.T W.ao.length a.t,Φ W.next,Φ W.now] dz cd Z))<|ca HI Z Z ((IY a W _ _ ([]:List iC) ([]) _ (bZ.keep vy) (J.aK.nil _) oA.nil).mono ?_);rintro e V6 ⟨aNR,mn,oC,aeI,aQh,aUA,rfl,aDo,vE,afO,aj4,pQ⟩;refine cu ?_;have:=pQ.size;have D9:=γ vy pQ;have Gl:=bM vE.lt;have aFJ:=dx vE.lt;have aW3:=bM afO.lt;have aUk:=dx afO.lt;have aQD:∀ q∈J.ab aeI,q∈bH.cR mn→False:=aj4;have aQM:∀ q∈bH.cR mn,q∈J.ab aeI→False:=λ q κ τ=>aj4 q τ κ;refine vm Z<|bs Z Z<|bs Z Z<|bs Z Z<|cU nG Z λ V7 aPX hY aUd Q0=> ?_;have:=hY.size;have D_:=γ D9 hY;have aWE:=Q0.lt;refine st Z Z Q0 Z cd Z Z Z λ Me u_ Q0=> ?_;have:=u_.size;have wR:=Ext.mod D_ u_ bo;refine va Z<|aJ Z<|aw<|aa (ax Z (Q0.all dz cd))<|aa (v:= .agg #[Φ oC.field.wide,Φ oC.field.high, .slice mn.P oC.field.a_.length mn.p, .slice mn.B oC.bf.length mn.b, .slice mn.S oC.bE.length mn.s, .slice mn.M oC.bX.length mn.m, .slice mn.T oC.ao.length mn.t,Φ oC.next,Φ oC.now, .slice none 0 0]) (eu Z)<|cU YX Z λ apV RZ Gy aTk QV=> ?_;have:=Gy.size;have QH:=γ wR Gy;have aVC:=QV.lt;refine cF Z Z QV Z qV Z Z λ Gp pq QV=> ?_;have:=pq.size;have Jv:=Ext.mod QH pq bo;refine aC<|av<|aw<|aa (aj vS Z)<| ?_;have ae:=(((ae.later (γ pQ hY)).mod u_ aO).later Gy).mod pq aO;refine bk Z ae AR Z<|aa (b5 underlying30 Z)<|vm Z<|aC<|bJ<| ?_;have vE:=(((vE.later hY).mod u_ (bU Gl)).later Gy).mod pq (bU Gl);have ar:=((((((((ar.later (γ fK fp)).mod Bk aO).later (γ lS (γ fq iM))).mod jJ aO).mod uZ aO).later (γ pQ hY)).mod u_ aO).later Gy).mod pq aO;have Ar:=((((((Ar.later (γ fq iM)).mod jJ (bU LV)).mod uZ (bU LV)).later (γ pQ hY)).mod u_ (bU LV)).later Gy).mod pq (bU LV);have At:=((((((At.later (γ fq iM)).mod jJ (bU Gk)).mod uZ (bU Gk)).later (γ pQ hY)).mod u_ (bU Gk)).later Gy).mod pq (bU Gk);have Au:=((((((Au.later (γ fq iM)).mod jJ (bU LW)).mod uZ (bU LW)).later (γ pQ hY)).mod u_ (bU LW)).later Gy).mod pq (bU LW);refine eV (λ cp cn aP=>∃ k:Nat,∃ jc:List iC,∃ dP:Option Addr,∃ jS:Nat,cn= [(1, .slice sN l.length yU),(4, .pointer (bA cJ)),(5,Φ 0),(15, .pointer (bA RZ)),(57, .slice A T.length c),(58,Φ (T.length:Int)),(59,Φ (k:Int))]∧cp=T.length - k∧Ext w aP∧aM aP cJ [Φ 0,Φ 0, .slice none 0 0, .slice none 0 0, .slice none 0 0, .slice none 0 0, .slice none 0 0,Φ 0,Φ 0, .slice none 0 0] 32 (0,0)∧bu.aF 3 8 aP BG.heap.size (J.ab Mn) Mn avj (Gd eA l)∧bu.aF 3 8 aP BG.heap.size (J.ab Mo) Mo avk (Ge eA l)∧Bx.aF 4 1 aP BG.heap.size (J.ab Mp) Mp avl (Gc eA l)∧bH aP Mb.heap.size mn oC∧aM aP RZ [Φ oC.field.wide,Φ oC.field.high, .slice mn.P oC.field.a_.length mn.p, .slice mn.B oC.bf.length mn.b, .slice mn.S oC.bE.length mn.s, .slice mn.M oC.bX.length mn.m, .slice mn.T oC.ao.length mn.t,Φ oC.next,Φ oC.now, .slice dP jc.length jS] 32 (0,0)∧qs.aF 48 24 aP Gp.heap.size (J.ab dP) dP jS jc∧ju aP Gp.heap.size jc (L.take k)∧(k≤T.length)∧(jc.length=k)∧(Gp.heap.size≤aP.heap.size)∧(∀ q∈mD jc,q∈J.ab dP→False)∧(∀ q∈J.ab dP,q=cJ→False)∧(∀ q∈J.ab dP,q=RZ→False)∧(∀ q∈J.ab dP,q∈bH.cR mn→False)∧(∀ q∈J.ab dP,q∈J.ab Mn→False)∧(∀ q∈J.ab dP,q∈J.ab Mo→False)∧(∀ q∈J.ab dP,q∈J.ab Mp→False)) _ _ ⟨0, [],none,0,Z,Z,Jv,ar,Ar,At,Au,vE,QV,(J.aF.nil _),(ju.nil _ _),by omega,rfl,aYg _,λ q κ τ=>by simp [mD] at κ,(λ q I ag=>by (simp [J.ab] at I)),(λ q I ag=>by (simp [J.ab] at I)),(λ q I ag=>by (simp [J.ab] at I)),(λ q I ag=>by (simp [J.ab] at I)),(λ q I ag=>by (simp [J.ab] at I)),(λ q I ag=>by (simp [J.ab] at I))⟩ (eO Z Z Z) ?_;rintro Le aNX VW ⟨k,jc,dP,jS,rfl,rfl,vv,ar,Ar,At,Au,vE,aI,gM,js,ak,Ok,ali,yV,yW,vO,Hz,ag4,NF,ag5⟩;have:=vv.size;have aIg:=ar.lt;have tW:=bM Ar.lt;have yc:=bM At.lt;have BC:=bM Au.lt;have wA:=bM vE.lt;have aVK:=aI.lt;have I7:=bM gM.lt;have Tg:∀ q∈J.ab dP,Gp.heap.size≤q:=λ q I=>(gM.lt q I).1;have aQ5:∀ q∈J.ab dP,w.heap.size≤q:=λ q I=>by have:=Tg q I;omega
    have aPc:∀ q∈J.ab dP,q=RZ→False:=λ q I ag=>by have:=Tg q I;omega
    have pI:∀ q∈mD jc,q<VW.heap.size:=λ q I=>(js.lt q I).2;have zn:∀ q∈mD jc,Gp.heap.size≤q:=λ q I=>(js.lt q I).1;refine aw<|dR Z Z<|aC<|av<| ?_;refine en Z (λ aA5=> ?_) (λ aA5=> ?_)
    ·obtain ⟨gZ,ft,j2,hM,A2,hx⟩:=dY.at_ (k:=k) (by omega);refine bm<|av<|bJ<|aw<|aa (cl k underlying30 CD Z Z ((cB.keep vv).bT (aV k)) Z (by omega))<|aa (v:= .slice gZ j2.length ft) (ax Z (J.aK.fh aaA ((cB.keep vv).cD (aV k)) hM Z qU))<|aJ Z<| ?_;refine cO [(1,0),(3,2),(4,2),(5,3),(7,3)] [0,1,2,3,4,5,6,7] ?_;refine aq Z (λ _=>aj vS Z)<|cf Z Z aI AR Z<|a1 Z Z<|ff Z Z Z λ apY ov Q hK=>ca NR Z Z ((Nz _ _ j2 _ (hx.keep (γ vv ov))).mono ?_);rintro e ap1 ⟨WC,Ye,rfl,M0,aSb,ny⟩;refine ⟨_,Z,hK _ _ ⟨γ ov ny, ?_⟩⟩;have:=ov.size;have QI:=γ vv ov;have:=ny.size;have QK:=γ QI ny;have aKB:=bM M0.lt;have abX:=dx M0.lt;refine ff Z Z Z λ ap2 vo Q hK=>c7 (e:= 48) (cs:= [.slice WC ((j2).length) Ye]) Z (λ _=>by kernel_rfl) Z λ ap3 aPp yf aTx ae0=>hK _ _ ⟨γ vo yf, ?_⟩;have:=vo.size;have Ml:=γ QK vo;have:=yf.size;have QL:=γ Ml yf;have aVS:=ae0.lt;have gM:=gM.later (γ ov (γ ny (γ vo yf)));refine dE Z Z Z λ aXn vp Q hK=>ap afX J.dQ (gM.later vp) ((aM.gu (R:=qs) (by_:=24) (q:=(⟨WC,(j2).length,Ye⟩:iC)) ae0 ⟨Z,trivial⟩ (by decide)).keep vp) Z Z (by simp only [aYc,aYh];omega) (by simp only [aYc,aYh];omega) (by have:=vp.size;omega) Z λ ap5 aq4 avF zu RD CR aUQ=>hK _ _ ?_;have:=vp.size;have aMG:=γ QL vp;have:=zu.size;have QM:=Ext.mod aMG zu (λ q I=>aYF (by omega) ((gM.later vp).lt q I).1);have aW0:=bM RD.lt;have:=zu.size;refine aq Z (λ _=>aj vS Z)<| ?_;have aI:=(aI.later (γ ov (γ ny (γ vo (γ yf vp))))).mod zu (λ I=>vO _ I rfl);refine dE Z Z Z λ aLB GD Q hK=>dU Z Z (aI.later GD) Z YY Z Z λ aXr ab4 aI=>hK _ _ ?_;have:=GD.size;have aet:=γ QM GD;have:=ab4.size;have aMK:=Ext.mod aet ab4 bo;refine fn λ aXu Wo=> ?_;have:=Wo.size;have aMN:=γ aMK Wo;refine b1<|eM Z Z Z<| ?_;have dA:=nw (kW GD ab4) Wo;have ar:=((ar.later (γ ov (γ ny (γ vo (γ yf vp))))).mod zu (λ I=>yW _ I rfl)).mod dA aO;have Ar:=((Ar.later (γ ov (γ ny (γ vo (γ yf vp))))).mod zu (cQ ag4)).mod dA (bl λ q I ag=>by have:=tW q I;have:=LV q I;omega);have At:=((At.later (γ ov (γ ny (γ vo (γ yf vp))))).mod zu (cQ NF)).mod dA (bl λ q I ag=>by have:=yc q I;have:=Gk q I;omega);have Au:=((Au.later (γ ov (γ ny (γ vo (γ yf vp))))).mod zu (cQ ag5)).mod dA (bl λ q I ag=>by have:=BC q I;have:=LW q I;omega);have vE:=((vE.later (γ ov (γ ny (γ vo (γ yf vp))))).mod zu (cQ Hz)).mod dA (bl λ q I ag=>by have:=wA q I;have:=Gl q I;omega);have aI:=aI.later Wo;have RD:=RD.mod dA (bl λ q I ag=>aYC (CR q I) (λ FK=>by (exact vO q FK ag)) (λ FK=>by omega));have js:=((js.later (γ ov (γ ny (γ vo (γ yf vp))))).mod zu yV).mod dA (λ q I h=>by have ag:=aYf.1 h;exfalso;have:=zn q I;omega);have M0:=((M0.later (γ vo (γ yf vp))).mod zu (λ q I h=>by exfalso;(have:=abX q I;(have:=I7 q h;omega)))).mod dA (bz abX);exact eJ ⟨k+1,jc++ [(⟨WC,(j2).length,Ye⟩:iC)],aq4,avF,Z,Z,aMN,ar,Ar,At,Au,vE,aI,RD,(by rw [Gb A2];exact js.snoc (M0.down (by omega))),by omega,by rw [aX9,Ok];rfl,by omega,λ q κ τ=>(Qf κ).elim (λ κ=>by exfalso;(exact aYC (CR q τ) (λ alK=>by (exact yV q κ alK)) (λ alK=>by (have:=pI q κ;omega)))) (λ κ=>by exfalso;(exact aYC (CR q τ) (λ alL=>by (have:=abX q κ;(have:=I7 q alL;omega))) (λ alL=>by (have:=aKB q κ;omega)))),(fJ CR yW),(fJ CR vO),(λ q I ag=>by (exact aYC (CR q I) (λ Pg=>by (exact Hz q Pg ag)) (λ Pg=>by (have:=wA q ag;have:=Gl q ag;omega)))),(λ q I ag=>by (exact aYC (CR q I) (λ Ph=>by (exact ag4 q Ph ag)) (λ Ph=>by (have:=tW q ag;have:=LV q ag;omega)))),(λ q I ag=>by (exact aYC (CR q I) (λ Pj=>by (exact NF q Pj ag)) (λ Pj=>by (have:=yc q ag;have:=Gk q ag;omega)))),(λ q I ag=>by (exact aYC (CR q I) (λ Pk=>by (exact ag5 q Pk ag)) (λ Pk=>by (have:=BC q ag;have:=LW q ag;omega))))⟩
    ·have mr:k=L.length:=by rw [← dY.1];omega
     refine dn<|dk<|dG<|dj<|aX<|av<| ?_;refine cO [(1,0),(3,2),(4,2),(5,3),(7,3)] [0,1,2,3,4,5,6,7] ?_;refine aq Z (λ _=>aj vS Z)<|cf Z Z aI AR Z<|a1 Z Z<|ff Z Z Z λ aLF pN Q hK=>ca NR Z Z ((Nz _ _ l _ (ah.keep (γ vv pN))).mono ?_);rintro e aXA ⟨aeF,agD,rfl,M1,aSc,GG⟩;refine ⟨_,Z,hK _ _ ⟨γ pN GG, ?_⟩⟩;have:=pN.size;have aew:=γ vv pN;have:=GG.size;have aMS:=γ aew GG;have Gi:=bM M1.lt;have Pw:=dx M1.lt;refine ff Z Z Z λ aLH wL Q hK=>c7 (e:= 48) (cs:= [.slice aeF ((l).length) agD]) Z (λ _=>by kernel_rfl) Z λ aLJ aPy DX aTG ae5=>hK _ _ ⟨γ wL DX, ?_⟩;have:=wL.size;have aey:=γ aMS wL;have:=DX.size;have Wy:=γ aey DX;have aV0:=ae5.lt;have gM:=gM.later (γ pN (γ GG (γ wL DX)));refine dE Z Z Z λ aXD z7 Q hK=>ap afX J.dQ (gM.later z7) ((aM.gu (R:=qs) (by_:=24) (q:=(⟨aeF,(l).length,agD⟩:iC)) ae5 ⟨Z,trivial⟩ (by decide)).keep z7) Z Z (by simp only [aYc,aYh];omega) (by simp only [aYc,aYh];omega) (by have:=z7.size;omega) Z λ aXE ara avL FQ RH N7 aUZ=>hK _ _ ?_;have:=z7.size;have aMU:=γ Wy z7;have:=FQ.size;have aMV:=Ext.mod aMU FQ (λ q I=>aYF (by omega) ((gM.later z7).lt q I).1);have aW1:=bM RH.lt;have:=FQ.size;refine aq Z (λ _=>aj vS Z)<| ?_;have aI:=(aI.later (γ pN (γ GG (γ wL (γ DX z7))))).mod FQ (λ I=>vO _ I rfl);refine dE Z Z Z λ aXL nS Q hK=>dU Z Z (aI.later nS) Z YY Z Z λ aXM IG aI=>hK _ _ ?_;have:=nS.size;have aM2:=γ aMV nS;have:=IG.size;have aM3:=Ext.mod aM2 IG bo;refine fn λ aXO GH=> ?_;have:=GH.size;have aM5:=γ aM3 GH;refine aX<|aw<| ?_;have aI:=aI.later GH;refine aa (ax Z (aI.all AS qV))<| ?_;have ar:=((((ar.later (γ pN (γ GG (γ wL (γ DX z7))))).mod FQ (λ I=>yW _ I rfl)).later nS).mod IG aO).later GH;refine cF Z Z ar Z qV Z Z λ aLK Li ar=> ?_;have:=Li.size;have aeA:=Ext.mod aM5 Li bo;refine aY Z<|cz (.cell Z (ar.all AS qV) (.tmp Z .nil))<| ?_;have RH:=(((RH.later nS).mod IG (bl λ q I ag=>aYC (N7 q I) (λ al4=>by (exact vO q al4 ag)) (λ al4=>by omega))).later GH).mod Li (bl λ q I ag=>aYC (N7 q I) (λ al5=>by (exact yW q al5 ag)) (λ al5=>by omega));have M1:=(((((M1.later (γ wL (γ DX z7))).mod FQ (λ q I h=>by exfalso;(have:=Pw q I;(have:=I7 q h;omega)))).later nS).mod IG (bz Pw)).later GH).mod Li (bz Pw);have js:=(((((js.later (γ pN (γ GG (γ wL (γ DX z7))))).mod FQ yV).later nS).mod IG (λ q I h=>by have ag:=aYf.1 h;exfalso;have:=zn q I;omega)).later GH).mod Li (λ q I h=>by have ag:=aYf.1 h;exfalso;have:=zn q I;omega);have vE:=(((((vE.later (γ pN (γ GG (γ wL (γ DX z7))))).mod FQ (cQ Hz)).later nS).mod IG (bl λ q I ag=>by have:=wA q I;have:=Gl q I;omega)).later GH).mod Li (bz aFJ);subst mr;rw [aYS] at js;obtain ⟨_,hv,_⟩:=aDo.zero (by simp) nn rfl;have hv:oC=W:=hv;exact ⟨0,mn,_,ara,avL,_,L++ [l],Z, .inl ⟨Z,⟨qm,nn,oX⟩,bF,Ip,hv,Z⟩,vE.down (by omega),RH.down (by omega),(js.snoc (M1.down (by omega))).down (by omega),λ q I=>⟨λ h=>by exfalso;(exact aYC (N7 q h) (λ Pn=>by (exact Hz q Pn I)) (λ Pn=>by (have:=wA q I;have:=Gl q I;omega))),λ h=>(Qf h).elim (λ h=>by exfalso;(have:=zn q h;(have:=wA q I;have:=Gl q I;omega))) (λ h=>by exfalso;(have:=Pw q h;(have:=wA q I;have:=Gl q I;omega)))⟩,λ q I h=>(Qf h).elim (λ h=>by exfalso;(exact aYC (N7 q I) (λ Po=>by (exact yV q h Po)) (λ Po=>by (have:=pI q h;omega)))) (λ h=>by exfalso;(exact aYC (N7 q I) (λ al6=>by (have:=Pw q h;(have:=I7 q al6;omega))) (λ al6=>by (have:=Gi q h;omega)))),aeA⟩
end
section
theorem aca (z:Array Value) (n:Nat):(madeCells z n).toList=(List.range n).map λ i=>z[i % z.size]! :=by
 unfold madeCells;rw [Array.toList_map,Array.toList_range]
theorem ani (z:Array Value) (aG:0<z.size):∀ c:Nat,(List.replicate c z.toList).flatten=(madeCells z (c * z.size)).toList
 | 0=>by simp [aca]
 | c+1=>by
  rw [List.replicate_succ',aZZ,ani z aG c,aca,aca,aZ1,List.range_add,aYA,ba8];congr 1;rw [aZa,List.flatten_nil,aYP];refine List.ext_getElem (by simp) λ i κ τ=> ?_;have HU:i<z.size:=by simpa using κ
  rw [bbm,List.getElem_range,Array.getElem_toList];show z[i]=z[(c * z.size+i) % z.size]!;rw [aZq,baL,aZz HU,bcP z i HU]
section
variable {P:Program} {n:Nat} {E cW:List (Nat×Value)} {a:Act} {w w' w0 w1:World} {Q:Exit→Act→World→Prop} {ops:Array Oper}
variable {d:Nat} {ty:TypeId} {pos:String} {af:Array Edge} {g:Option (Nat×Bool)} {x y z:Operand} {t:TypeId} {rest:List Oper}
theorem aFY {α:Type} {R:J α} {e by_ B c:Nat} {zv:Value} {q:α} (cK:R.Plain) (aH:P.underlying t=some (.slice e)) (hi:(P.info? e).map (λ i=>(i.zero,i.size,i.bytes))=some (some zv,R.size,by_)) (κ:zv.cells.size=R.size) (τ:0<R.size) (au:∀ (j:Nat) u,zv.cells[j]? =some u→R.raw j u) (I:∀ w,R.has w zv.cells.toList q)
  (hx:ev E x=some (.int .i64 (c:Int))) (aE:ev E y=some (.int .i64 (c:Int))) (hd:Nat.blt d n=true) (ag:c * by_≤140737488355328) (hc:c≤9223372036854775807) (bg:B≤w.heap.size)
  (h:∀ w1 b,Ext w w1→w.heap.size≤b→R.aF e by_ w1 B (J.ab (some ⟨b,0,none⟩)) (some ⟨b,0,none⟩) c (List.replicate c q)→cg P n ops Q rest ((d, .slice (some ⟨b,0,none⟩) c c)::E) w1):cg P n ops Q (⟨some d, .makeSlice t x y,ty,pos,af,none⟩::rest) E w:=by
 refine acb (m:=c) (ess:=List.replicate c zv.cells.toList) cK aH hi κ τ au hx aE hd (aYg _) ag hc bg (by simp) (λ w=> ?_) ?_ h
 ·clear h ag hc hx aE;induction c with
  | zero=>trivial
  | succ c bL=>exact ⟨I w,bL⟩
 ·rw [ani _ (by rw [κ];exact τ),κ,aYp];rw [aZ0,bbQ];exact aYg _
end
end
section
variable {q:Nat} {v:bS} {l:Int} {g:Bool} {o:aQ}
theorem atJ:ez prog bS.rep 34 163 40:=ez.ki (z:=bS.zero) (k:=3) underlying34 bS.info rfl rfl (by decide) bS.j8
theorem atI:ez prog aQ.rep 48 69 48:=ez.ki (z:=aQ.zero) (k:=6) underlying48 aQ.info rfl rfl (by decide) aQ.j8
open Go.Proofs.YtmeeljmapailnaaGreat.fL
def gS (T:List bS):List Nat:=mD (T.map bS.lO)
def atG (T:List bS):Prop:=∀ (i j:Nat) (u v:bS),T[i]? =some u→T[j]? =some v→i≠j→∀ q∈J.ab u.a,q∉J.ab v.a
def fG (w:World) (aA:Nat) (T:List bS) (S:List cT):Prop:=ju w aA (T.map bS.lO) (S.map cT.waits)∧T.map (λ v=>(v.late,v.gone))=S.map (λ s=>(s.late,s.gone))∧atG T
theorem P5 {T:List bS} (h:q∈gS T):∃ (i:Nat) (v:bS),T[i]? =some v∧q∈J.ab v.a:=by
 obtain ⟨i,v,κ,τ⟩:=apm h;rw [aYv] at κ;cases au:T[i]? with
 | none=>rw [au] at κ;cases κ
 | some u=>rw [au] at κ;obtain rfl:=aYd κ;exact ⟨i,u,au,τ⟩
theorem ve {T:List bS} {i:Nat} (h:T[i]? =some v) (I:q∈J.ab v.a):q∈gS T:=apn (i:=i) (v:=v.lO) (by rw [aYv,h];rfl) I
section
variable {w w':World} {aA Z':Nat} {T:List bS} {S:List cT} {k:Nat} {A:Option Addr} {c:Nat} {s:cT}
theorem fG.nil (w:World) (aA:Nat):fG w aA [] []:=⟨ju.nil _ _,rfl,λ i j u v h=>by simp at h⟩
theorem fG.later (h:fG w aA T S) (x:Ext w w'):fG w' aA T S:=⟨h.1.later x,h.2⟩
theorem fG.mod {B:List Nat} (h:fG w aA T S) (m:Mod B w w') (hd:∀ q∈gS T,q∉B):fG w' aA T S:=⟨h.1.mod m hd,h.2⟩
theorem fG.down (h:fG w aA T S) (bc:Z'≤aA):fG w Z' T S:=⟨h.1.down bc,h.2⟩
theorem fG.lt (h:fG w aA T S):∀ q∈gS T,aA≤q∧q<w.heap.size:=h.1.lt
theorem fG.zN (h:fG w aA T S):qL w T S:=⟨h.1.apj,h.2.1⟩
theorem aoH (h:q∈gS (T++ [v])):q∈gS T∨q∈J.ab v.a:=by
 unfold gS at h ⊢;rw [aYA] at h;exact Qf h
theorem fG.snoc (h:fG w aA T S) (o:aQ.rep.aF 69 48 w aA (J.ab A) A c s.waits) (hd:∀ q∈gS T,q∉J.ab A):fG w aA (T++ [⟨A,s.waits.length,c,s.late,s.gone⟩]) (S++ [s]):=by
 refine ⟨?_,by rw [aYA,aYA,h.2.1];rfl,λ i j u v hi ay jF q I ze=> ?_⟩
 ·rw [aYA,aYA];exact h.1.snoc o
 ·have ah:=fun {i:Nat} {u:bS} (h:(T++ [(⟨A,s.waits.length,c,s.late,s.gone⟩:bS)])[i]? =some u)=>(aX8.1 h).1;have Ic:=ah hi;have OK:=ah ay;rw [aX9,aYr] at Ic OK;rcases aZc i T.length with κ | κ<;>rcases aZc j T.length with τ | τ
  ·rw [aYw κ] at hi;rw [aYw τ] at ay;exact h.2.2 i j u v hi ay jF q I ze
  ·rw [aYw κ] at hi;rw [aYy τ,show j - T.length=0 from by omega] at ay;obtain rfl:=aYd ay;exact hd q (ve hi I) ze
  ·rw [aYy κ,show i - T.length=0 from by omega] at hi;rw [aYw τ] at ay;obtain rfl:=aYd hi;exact hd q (ve ay ze) I
  ·omega
theorem fG.get (h:fG w aA T S) (ak:k<T.length):∃ (A:Option Addr) (c:Nat) (s:cT),T[k]? =some ⟨A,s.waits.length,c,s.late,s.gone⟩∧S[k]? =some s∧aQ.rep.aF 69 48 w aA (J.ab A) A c s.waits:=by
 obtain ⟨A,c,s,κ,τ,au⟩:=h.zN.at_ ak;obtain ⟨l,aU,bN,cq⟩:=h.1.2 k ⟨A,s.waits.length,c⟩ (by rw [aYv,κ];rfl);rw [aYv,τ] at aU;obtain rfl:=aYd aU;exact ⟨A,c,s,κ,τ,cq⟩
theorem fG.set (h:fG w aA T S) (ak:k<T.length) (o:aQ.rep.aF 69 48 w aA (J.ab A) A c s.waits) (hd:∀ (i:Nat) (u:bS),T[i]? =some u→i≠k→∀ q∈J.ab u.a,q∉J.ab A):fG w aA (T.set k ⟨A,s.waits.length,c,s.late,s.gone⟩) (S.set k s):=by
 have gC:k<S.length:=by rw [← h.zN.len];exact ak
 refine ⟨⟨by simp [h.zN.len],λ i v hi=> ?_⟩, ?_,λ i j u v hi ay jF q I ze=> ?_⟩
 ·rw [aZu] at hi;by_cases nh:k=i
  ·subst nh;rw [aYz (by simpa using ak)] at hi;obtain rfl:=aYd hi;exact ⟨s.waits,by rw [aZu,aYz (by simpa using gC)],rfl,o⟩
  ·rw [aYJ nh] at hi;obtain ⟨l,κ,τ,au⟩:=h.1.2 i v hi;exact ⟨l,by rw [aZu,aYJ nh];exact κ,τ,au⟩
 ·rw [aZu,aZu,h.2.1]
 ·by_cases nh:k=i
  ·subst nh;rw [aYz ak] at hi;obtain rfl:=aYd hi;rw [aYJ jF] at ay;exact hd j v ay (ba7 jF) q ze I
  ·rw [aYJ nh] at hi;by_cases hU:k=j
   ·subst hU;rw [aYz ak] at ay;obtain rfl:=aYd ay;exact hd i u hi jF q I ze
   ·rw [aYJ hU] at ay;exact h.2.2 i j u v hi ay jF q I ze
theorem fG.out (h:fG w aA T S) (ak:k<T.length):∃ (A:Option Addr) (c:Nat) (s:cT),T[k]? =some ⟨A,s.waits.length,c,s.late,s.gone⟩∧S[k]? =some s∧aQ.rep.aF 69 48 w aA (J.ab A) A c s.waits∧fG w aA (T.set k ⟨none,0,0,s.late,s.gone⟩) (S.set k ⟨[],s.late,s.gone⟩)∧(∀ q∈J.ab A,q∈gS T)∧∀ q∈gS (T.set k ⟨none,0,0,s.late,s.gone⟩),q∈gS T∧q∉J.ab A:=by
 obtain ⟨A,c,s,κ,τ,au⟩:=h.get ak;refine ⟨A,c,s,κ,τ,au,h.set (s:=⟨[],s.late,s.gone⟩) ak (J.aF.nil _) (λ i u _ _ q _ I=>by simp [J.ab] at I),λ q I=>ve κ I,λ q I=> ?_⟩;obtain ⟨i,v,aU,bN⟩:=P5 I;by_cases nh:k=i
 ·subst nh;rw [aYz ak] at aU;obtain rfl:=aYd aU;simp [J.ab] at bN
 ·rw [aYJ nh] at aU;exact ⟨ve aU bN,h.2.2 i k v _ aU κ (ba7 nh) q bN⟩
theorem fG.back (h:fG w aA (T.set k ⟨none,0,0,l,g⟩) (S.set k ⟨[],l,g⟩)) (ak:k<T.length) (o:aQ.rep.aF 69 48 w aA (J.ab A) A c s.waits) (hd:∀ q∈gS (T.set k ⟨none,0,0,l,g⟩),q∉J.ab A):fG w aA (T.set k ⟨A,s.waits.length,c,s.late,s.gone⟩) (S.set k s):=by
 have κ:=h.set (k:=k) (s:=s) (by simpa using ak) o (λ i u hi _ q I=>hd q (ve hi I));rw [List.set_set,List.set_set] at κ;exact κ
theorem P6 (h:q∈gS (T.set k v)):q∈gS (T.set k ⟨none,0,0,v.late,v.gone⟩)∨q∈J.ab v.a:=by
 obtain ⟨i,u,aU,bN⟩:=P5 h;by_cases nh:k=i
 ·subst nh;rw [aYz (by have:=(aX8.1 aU).1;simpa using this)] at aU;obtain rfl:=aYd aU;exact .inr bN
 ·rw [aYJ nh] at aU;exact .inl (ve (i:=i) (by rw [aYJ nh];exact aU) bN)
end
def adk (S:List cT) (o:aQ):Prop:=yM S∧o.a7=0∧∃ s,S[o.by_.toNat]? =some s∧s.gone=false∧s.waits.length≠50
def LJ (S:List cT) (o:aQ):List cT:=match S[o.by_.toNat]? with | some s=>S.set o.by_.toNat ⟨s.waits++ [o],s.late,s.gone⟩ | none=>S
def amQ (S:List cT) (p:Int):Prop:=yM S∧0≤p∧∃ s,S[p.toNat]? =some s∧s.gone=false
def afV (ok:Prop) (S:List cT) (e:Int) (p4:List cT):Prop:=(e=0∧ok∧p4=S)∨(e≠0∧¬ ok∧p4= [])
def Di (S:List cT) (p:Int):List cT:=S.set p.toNat ⟨[],0,true⟩
theorem Vp {T:List bS} {k:Nat} (h:q∈gS (T.set k ⟨none,0,0,l,g⟩)):q∈gS T:=by
 obtain ⟨i,u,aU,bN⟩:=P5 h;by_cases nh:k=i
 ·subst nh;rw [aYz (by have:=(aX8.1 aU).1;simpa using this)] at aU;obtain rfl:=aYd aU;simp [J.ab] at bN
 ·rw [aYJ nh] at aU;exact ve aU bN
theorem aoG {n:Nat} (h:q∈gS (List.replicate n default)):False:=by
 obtain ⟨i,u,aU,bN⟩:=P5 h;rw [aZn] at aU;split at aU
 ·obtain rfl:=aYd aU;simp [J.ab,default] at bN
 ·cases aU
theorem fG.aIK (w:World) (aA n:Nat):fG w aA (List.replicate n default) (List.replicate n ⟨[],0,false⟩):=by
 refine ⟨⟨by simp,λ i v h=> ?_⟩,by simp [default],λ i j u v κ _ _ q I=>(aoG (ve κ I)).elim⟩;rw [bdi] at h;have hi:i<n:=by have:=(aX8.1 h).1;simpa using this
 rw [aZn,aYq hi] at h;obtain rfl:=aYd h;exact ⟨[],by rw [bdi,aZn,aYq hi],rfl,J.aF.nil _⟩
theorem awj (h:o.a7=0):0≤o.by_∧o.by_≤7:=by
 cases hr:o.F4 with
 | true=>rw [aQ.Ny hr] at h;cases h
 | false =>
  unfold aQ.F4 at hr;simp only [aYM,aZP] at hr;have:=hr.1.1.1.1.1;unfold b9 at this;simp at this;exact this
theorem aI8 {S:List cT} {s:cT} (h:S[o.by_.toNat]? =some s):LJ S o=S.set o.by_.toNat ⟨s.waits++ [o],s.late,s.gone⟩:=by unfold LJ;rw [h]
theorem adt (A:Option Addr) (c:Nat) (T:List bS) (S:List cT) (w:World) (cB:bS.rep.aK 40 w A c T) (hS:qL w T S):
  Calls prog 95 #[.slice A T.length c] w (λ e w'=>∃ (bQ:Option Addr) (cc:Nat) (k9:List bS),e= .returned (.slice bQ k9.length cc)∧bS.rep.aF 163 40 w' w.heap.size (J.ab bQ) bQ cc k9∧fG w' w.heap.size k9 S∧(∀ q∈J.ab bQ,q∉gS k9)∧Ext w w'):=by
 have Ie:=cB.fa;have TO:=cB.2.2.1;refine ch (n:=25) func95 Z Z Z ?_;refine aw<|aJ Z<|aB Z<|aa (b5 underlying34 Z)<|UB (R:=bS.rep) (by_:=40) (B:=w.heap.size) (c:=T.length) (zv:=bS.zero) J.qa underlying34 bS.info Z (by decide) bS.j8 Z Z Z (by omega) (by omega) (by omega) λ cG bB aR d' RJ=> ?_;have:=aR.size;refine aJ Z<|av<|aB Z<|aa (b5 underlying34 Z)<|vm Z<|aC<|bJ<| ?_;refine eV (λ cp cn aP=>∃ k:Nat,∃ jc:List bS,∃ dP:Option Addr,∃ jS:Nat,cn= [(2, .slice none 0 0),(3, .slice dP jc.length jS),(9, .slice A T.length c),(10,Φ (T.length:Int)),(11,Φ (k:Int))]∧cp=T.length - k∧Ext w aP∧bS.rep.aF 163 40 aP w.heap.size (J.ab dP) dP jS jc∧fG aP cG.heap.size jc (S.take k)∧(k≤T.length)∧(jc.length=k)∧(cG.heap.size≤aP.heap.size)∧(∀ q∈gS jc,q∈J.ab dP→False)) _ _ ⟨0, [],some ⟨bB,0,none⟩,T.length,Z,Z,aR,RJ,(fG.nil _ _),by omega,rfl,aYg _,λ q κ τ=>by simp [gS,mD] at κ⟩ (eO Z Z Z) ?_;rintro UD aNU uf ⟨k,jc,dP,jS,rfl,rfl,jN,gM,js,ak,Ok,ali,yV⟩;have:=jN.size;have Gh:=bM gM.lt;have Tg:∀ q∈J.ab dP,w.heap.size≤q:=λ q I=>(gM.lt q I).1;have pI:∀ q∈gS jc,q<uf.heap.size:=λ q I=>(js.lt q I).2;refine aw<|dR Z Z<|aC<|av<| ?_;refine en Z (λ aA6=> ?_) (λ aA6=> ?_)
 ·obtain ⟨gZ,ft,bG,hM,A2,hx⟩:=hS.at_ (k:=k) (by omega);refine bm<|av<|bJ<|aw<|aa (cl k underlying34 l0 Z Z ((cB.keep jN).bT (aV k)) Z (by omega))<|aa (ax Z (J.aK.iu pe ((cB.keep jN).cD (aV k)) hM E3 l0))<|cU SP Z λ hG jf cr rm br=> ?_;have c6:=γ jN cr;have xX:=br.lt;refine cF Z Z br Z l0 Z Z λ nR FR br=> ?_;have:=FR.size;have eZ:=Ext.mod c6 FR bo;refine aC<|aw<|aa (aj s5 Z)<|bk Z br qU Z<|ca NR Z Z ((Nz _ _ bG.waits _ (hx.keep eZ)).mono ?_);rintro e ub ⟨WG,Yg,rfl,M4,aSf,d_⟩;refine cu ?_;have:=d_.size;have hH:=γ eZ d_;have pJ:=bM M4.lt;have nN:=dx M4.lt;refine aa (aj s5 Z)<| ?_;have br:=br.later d_;refine dU Z Z br Z CD Z Z λ zV mV br=> ?_;have:=mV.size;have mG:=Ext.mod hH mV bo;refine aC<|rg<|vm Z<|aa (ax Z (br.all E3 l0))<|c7 (e:= 163) (cs:= [.slice WG ((bG.waits).length) Yg,Φ bG.late, .bool bG.gone]) Z (λ _=>by kernel_rfl) Z λ L1 R2 eL amI Ai=> ?_;have:=eL.size;have um:=γ mG eL;have aIr:=Ai.lt;have gM:=((((gM.later cr).mod FR (bU Gh)).later d_).mod mV (bU Gh)).later eL;refine ap atJ J.dQ gM (aM.gu (R:=bS.rep) (by_:=40) (q:=(⟨WG,(bG.waits).length,Yg,bG.late,bG.gone⟩:bS)) Ai ⟨Z,(show ea bG.late from bS.oD cB _ (aYR hM))⟩ (by decide)) Z Z (by simp only [aYc,aYh];omega) (by simp only [aYc,aYh];omega) (by omega) Z λ wH ark agH iH ath ai0 aU9=> ?_;have:=iH.size;have j6:=Ext.mod um iH (λ q I=>aYF (by omega) (gM.lt q I).1);refine va Z<|nl<|b1<|eM Z Z Z<| ?_;have js:=(((((js.later cr).mod FR (bU pI)).later d_).mod mV (bU pI)).later eL).mod iH yV;have M4:=((M4.mod mV (bz nN)).later eL).mod iH (λ q I h=>by exfalso;(have:=nN q I;(have:=Gh q h;omega)));exact eJ ⟨k+1,jc++ [(⟨WG,(bG.waits).length,Yg,bG.late,bG.gone⟩:bS)],ark,agH,Z,Z,j6,ath,(by rw [Gb A2];exact js.snoc (M4.down (by omega)) (λ q κ τ=>by exfalso;(have:=nN q τ;(have:=pI q κ;omega)))),by omega,by rw [aX9,Ok];rfl,by omega,λ q κ τ=>(aoH κ).elim (λ κ=>by exfalso;(exact aYC (ai0 q τ) (λ ami=>by (exact yV q κ ami)) (λ ami=>by (have:=pI q κ;omega)))) (λ κ=>by exfalso;(exact aYC (ai0 q τ) (λ Pp=>by (have:=nN q κ;(have:=Gh q Pp;omega))) (λ Pp=>by (have:=pJ q κ;omega))))⟩
 ·have mr:k=S.length:=by rw [← hS.len];omega
  refine dn<|dk<|dG<|dj<|aX<|aB Z<|aY Z<|b_ Z Z<| ?_;subst mr;rw [aYS] at js;exact ⟨dP,jS,jc,Z,gM,js.down (by omega),λ q κ τ=>yV q τ κ,jN⟩
theorem aJO (A:Option Addr) (c:Nat) (T:List bS) (S:List cT) (o:aQ) (w:World) (cB:bS.rep.aK 40 w A c T) (hS:qL w T S) (bK:o.ok):
  Calls prog 53 #[.slice A T.length c, .agg #[Φ o.by_,Φ o.kind,Φ o.bd,Φ o.spot.x,Φ o.spot.y,Φ o.what]] w (λ e w'=>∃ (e':Int) (bQ:Option Addr) (cc:Nat) (k9:List bS) (p4:List cT),e= .returned (.tuple #[.slice bQ k9.length cc,Φ e'])∧afV (adk S o) (LJ S o) e' p4∧bS.rep.aF 163 40 w' w.heap.size (J.ab bQ) bQ cc k9∧fG w' w.heap.size k9 p4∧(∀ q∈J.ab bQ,q∉gS k9)∧Ext w w'):=by
 have Ie:=cB.fa;have TO:=cB.2.2.1;refine ch (n:=58) func53 Z Z Z ?_;refine dZ Z Z λ cG bB aR d' ae=> ?_;have hE:=ae.lt;refine va Z<|aJ Z<|aB Z<|ca SQ Z Z ((Vo _ _ T S _ (cB.keep aR) (hS.keep aR)).mono ?_);rintro e uf ⟨MC,rfl,ajT,bt⟩;refine cu ?_;have:=bt.size;have jN:=γ aR bt;refine aJ Z<|av<|aB Z<|aa (beq Z Z)<|aC<| ?_;refine iE Z (λ oI=> ?_) (λ oI=> ?_)
 ·have HW:=ajT.1 (by simpa using oI);refine rg<| ?_;have ae:=ae.later bt;refine aa (ax Z (ae.all ky gm))<|cM YQ Z (acw o _) λ BF iy=> ?_;have:=iy.size;have hZ:=γ jN iy;refine aJ Z<|av<|bJ<|aB Z<|cS Z Z<|aJ Z<| ?_;refine eU Z (λ q0=> ?_) (λ q0=> ?_)
  ·refine fu<|b1<|aX<|av<|aB Z<|cS Z Z<|aC<| ?_;refine eU Z (λ aBb=> ?_) (λ aBb=> ?_)
   ·refine aB Z<|va Z<|aY Z<|bD<|f_ Z Z Z<| ?_;exact ⟨o.a7,none,0, [], [],Z, .inr ⟨(by omega),(λ bw=>absurd bw.2.1 (by simpa using q0)),Z⟩,J.aF.nil _,fG.nil _ _,λ q I=>by simp [J.ab] at I,hZ⟩
   ·exfalso;omega
  ·have q7:o.a7=0:=by simpa using q0
   have cV:=awj q7;refine aw<|aa (aj vR Z)<| ?_;have ae:=ae.later iy;refine bk Z ae aT Z<|vm Z<|aa (b5 underlying34 Z)<|aa (jg Z Z)<|aJ Z<| ?_;refine J9 Z (λ nd=> ?_) (λ nd=> ?_)
   ·refine rg<|va Z<|nl<|b1<|aX<|av<|aB Z<|cS Z Z<|aC<|eT Z<|aB Z<|va Z<|aY Z<|bD<|f_ Z Z Z<| ?_;exact ⟨7,none,0, [], [],Z, .inr ⟨(by decide),(by rintro ⟨_,_,s,hs,_⟩;have:=(aX8.1 hs).1;have:=hS.len;omega),Z⟩,J.aF.nil _,fG.nil _ _,λ q I=>by simp [J.ab] at I,hZ⟩
   ·have bF:o.by_.toNat<T.length:=by omega
    obtain ⟨gZ,ft,bG,hM,ln,hx⟩:=hS.at_ bF;refine aB Z<|aa (aj vR Z)<|bk Z ae aT Z<|aa (cl o.by_.toNat underlying34 l0 Z Z ((cB.keep hZ).bT (aV o.by_.toNat)) (by omega) (by omega))<|aa (aj NQ Z)<|aa (v:= .bool bG.gone) (ax Z (J.aK.lg pe ((cB.keep hZ).cD (aV o.by_.toNat)) 2 hM Z CI))<|aJ Z<| ?_;refine du Z (λ mR=> ?_) (λ mR=> ?_)
    ·refine rg<|va Z<|nl<|b1<|aX<|av<|aB Z<|cS Z Z<|aC<|eT Z<|aB Z<|va Z<|aY Z<|bD<|f_ Z Z Z<| ?_;exact ⟨9,none,0, [], [],Z, .inr ⟨(by decide),(by rintro ⟨_,_,s,hs,aN,_⟩;rw [ln] at hs;obtain rfl:=aYd hs;rw [mR] at aN;cases aN),Z⟩,J.aF.nil _,fG.nil _ _,λ q I=>by simp [J.ab] at I,hZ⟩
    ·refine aB Z<|aa (aj vR Z)<|bk Z ae aT Z<|aa (cl o.by_.toNat underlying34 l0 Z Z ((cB.keep hZ).bT (aV o.by_.toNat)) (by omega) (by omega))<|aa (aj s5 Z)<|aa (v:= .slice gZ bG.waits.length ft) (ax Z (J.aK.lg pe ((cB.keep hZ).cD (aV o.by_.toNat)) 0 hM Z qU))<|aa (b5 underlying48 Z)<|aa (beq Z Z)<|aJ Z<| ?_;refine iE Z (λ CX=> ?_) (λ CX=> ?_)
     ·refine rg<|va Z<|nl<|b1<|aX<|av<|aB Z<|cS Z Z<|aC<|eT Z<|aB Z<|va Z<|aY Z<|bD<|f_ Z Z Z<| ?_;exact ⟨6,none,0, [], [],Z, .inr ⟨(by decide),(by rintro ⟨_,_,s,hs,_,ah⟩;rw [ln] at hs;obtain rfl:=aYd hs;omega),Z⟩,J.aF.nil _,fG.nil _ _,λ q I=>by simp [J.ab] at I,hZ⟩
     ·have alj:bG.waits.length≤50:=(HW.2.2 _ bG ln).1;have aDL:bG.waits.length≠50:=by omega
      refine fu<|b1<|aX<|av<|aB Z<|cS Z Z<|aC<| ?_;refine eU Z (λ xy=> ?_) (λ xy=> ?_)
      ·exfalso;omega
      ·refine bm<|aB Z<|ca YZ Z Z ((adt _ _ T S _ (cB.keep hZ) (hS.keep hZ)).mono ?_);rintro e rF ⟨aeG,aP8,XO,rfl,EA,afy,aj2,cX⟩;refine cu ?_;have:=cX.size;have iA:=γ hZ cX;have tX:=bM EA.lt;refine aJ Z<|av<| ?_;have aAV:XO.length=T.length:=by have:=afy.zN.len;have:=hS.len;omega
       obtain ⟨GR,vN,aJ2,ajB,ajA,Nb,Eu,rh,aln⟩:=afy.out (k:=o.by_.toNat) (by omega);obtain rfl:bG=aJ2:=by rw [ln] at ajA;exact aYd ajA
       have aEW:=dx Nb.lt;have SB:∀ q∈J.ab GR,q∈J.ab aeG→False:=λ q κ τ=>aj2 q τ (rh q κ);have aKy:=bM Eu.lt;have SA:∀ q∈gS (XO.set (o.by_.toNat) ⟨none,0,0,bG.late,bG.gone⟩),q∈J.ab aeG→False:=λ q κ τ=>aj2 q τ (aln q κ).1;have ahG:∀ q∈gS (XO.set (o.by_.toNat) ⟨none,0,0,bG.late,bG.gone⟩),q∈J.ab GR→False:=λ q κ τ=>(aln q κ).2 τ;refine P0 (J.ab GR) [(2,0),(5,0),(8,0),(9,0),(10,2),(11,2),(14,3)] [0,1,2,3,4,5,6,7,8,9,10,11,12,13,14] (by kernel_rfl) (by kernel_rfl) ?_;refine fO Z Z (λ _=>gw Z) Z<|fO Z Z (λ _=>aj vR Z) Z<| ?_;have ae:=ae.later cX;have YB:∀ q∈J.ab GR,q=bB→False:=λ q I ag=>by (have:=aEW q I;omega)
       refine r8 Z Z (λ _ x=>ax Z ((ae.mod x (λ I=>YB _ I Z)).one aT Z)) Z<|fO Z Z (λ _=>gw Z) Z<|fO Z Z (λ _=>aj vR Z) Z<|r8 Z Z (λ _ x=>ax Z ((ae.mod x (λ I=>YB _ I Z)).one aT Z)) Z<|fO Z Z (λ _=>cl o.by_.toNat underlying34 l0 Z Z (EA.has.bT (aV o.by_.toNat)) (by omega) (by omega)) Z<|fO Z Z (λ _=>aj s5 Z) Z<|r8 (v:= .slice GR bG.waits.length vN) Z Z (λ _ x=>ax Z (J.aK.lg pe ((EA.mod x (cQ SB)).has.cD (aV o.by_.toNat)) 0 ajB Z qU)) Z<|r8 Z Z (λ _ x=>ax Z ((ae.mod x (λ I=>YB _ I Z)).all ky gm)) Z<|CN Z Z Z λ ub d_ Q hK=>c7 (e:= 69) (cs:= [Φ o.by_,Φ o.kind,Φ o.bd,Φ o.spot.x,Φ o.spot.y,Φ o.what]) Z (λ _=>by kernel_rfl) Z λ ud auH il aE5 Mu=>hK _ _ ⟨Mod.a8 (γ d_ il), ?_⟩;have:=d_.size;have hH:=γ iA d_;have hI:=γ hH il;have aIp:=Mu.lt;have Nb:=Nb.later (γ d_ il);refine CN Z Z Z λ wG fE Q hK=>ap atI J.dQ (Nb.later fE) ((aM.gu (R:=aQ.rep) (by_:=48) (q:=o) Mu ⟨Z,bK⟩ (by decide)).keep fE) Z Z (by first | (simp<;>omega) | omega) (by first | (simp<;>omega) | omega) (by have:=fE.size;omega) Z λ L2 arj avS qh XH ZL aU7=>hK _ _ ⟨(Mod.a8 fE).trans qh, ?_⟩;have:=fE.size;have mH:=γ hI fE;have vw:=Ext.mod mH qh (λ q I=>aYF (by omega) ((Nb.later fE).lt q I).1);have EA:=(EA.later (γ d_ (γ il fE))).mod qh (cQ SB);refine fO Z Z (λ _=>cl o.by_.toNat underlying34 l0 Z Z (EA.has.bT (aV o.by_.toNat)) (by omega) (by omega)) Z<|fO Z Z (λ _=>aj s5 Z) Z<|N0 Z Z Z λ Jd lR Q hK=>so (q':=(⟨arj,(bG.waits++ [o]).length,avS,(⟨GR,bG.waits.length,vN,bG.late,bG.gone⟩:bS).late,(⟨GR,bG.waits.length,vN,bG.late,bG.gone⟩:bS).gone⟩:bS)) (j:=0) (i:=o.by_.toNat) (EA.later lR) J.dQ ajB Z Z Z Z (λ _ cs h=>by have rz:=(show _∧_ from h).2;obtain rfl:=pe h;exact ⟨rfl,rz⟩) Z Z CD λ ap8 ab6 XI=>hK _ _ ?_;have qB:=γ vw lR;have GM:=Ext.mod qB ab6 (λ q I=>aYF (by omega) ((EA.later lR).lt q I).1);refine N1 λ DN hX=> ?_;have rP:=γ GM hX;refine aX<|aB Z<|va Z<|aY Z<|f_ Z Z Z<| ?_;have XI:=XI.later hX;have Eu:=((((Eu.later (γ d_ (γ il fE))).mod qh ahG).later lR).mod ab6 SA).later hX;have XH:=((XH.later lR).mod ab6 (hh ZL SB tX)).later hX;have bg:=fG.back (s:=⟨bG.waits++ [o],bG.late,bG.gone⟩) Eu (by omega) XH (cQ (hh ZL (cQ ahG) aKy));exact ⟨0,_,_,_,LJ S o,by rw [aYn];rfl, .inl ⟨rfl,⟨HW,q7,bG,ln,by simpa using mR,aDL⟩,rfl⟩,XI.down (by omega),by rw [aI8 ln];exact bg.down (by omega),λ q κ τ=>(P6 τ).elim (λ τ=>SA q τ κ) (λ τ=>by exfalso;(exact aYC (ZL q τ) (λ Pr=>by (exact SB q Pr κ)) (λ Pr=>by (have:=tX q κ;omega)))),rP⟩
 ·refine bm<|av<|bJ<|aB Z<|cS Z Z<|aJ Z<| ?_;refine eU Z (λ A6=> ?_) (λ A6=> ?_)
  ·refine fu<|b1<|aX<|av<|aB Z<|cS Z Z<|aC<| ?_;refine eU Z (λ HY=> ?_) (λ HY=> ?_)
   ·refine aB Z<|va Z<|aY Z<|bD<|f_ Z Z Z<| ?_;exact ⟨MC,none,0, [], [],Z, .inr ⟨(by simpa using oI),(λ bw=>(show ¬ MC=0 by simpa using oI) (ajT.2 bw.1)),Z⟩,J.aF.nil _,fG.nil _ _,λ q I=>by simp [J.ab] at I,jN⟩
   ·exfalso;omega
  ·exfalso;omega
theorem aJy (A:Option Addr) (c:Nat) (T:List bS) (S:List cT) (p:Int) (w:World) (cB:bS.rep.aK 40 w A c T) (hS:qL w T S):
  Calls prog 100 #[.slice A T.length c,Φ p] w (λ e w'=>∃ (e':Int) (bQ:Option Addr) (cc:Nat) (k9:List bS) (p4:List cT),e= .returned (.tuple #[.slice bQ k9.length cc,Φ e'])∧afV (amQ S p) (Di S p) e' p4∧bS.rep.aF 163 40 w' w.heap.size (J.ab bQ) bQ cc k9∧fG w' w.heap.size k9 p4∧(∀ q∈J.ab bQ,q∉gS k9)∧Ext w w'):=by
 have Ie:=cB.fa;have TO:=cB.2.2.1;refine ch (n:=37) func100 Z Z Z ?_;refine aw<|va Z<|aJ Z<|aB Z<|ca SQ Z Z ((Vo _ _ T S _ (cB.keep (Ext.cH w)) (hS.keep (Ext.cH w))).mono ?_);rintro e l9 ⟨G0,rfl,uR,aR⟩;refine cu ?_;have:=aR.size;refine aJ Z<|av<|bJ<|aB Z<|cS Z Z<|aJ Z<| ?_;refine eU Z (λ mv=> ?_) (λ mv=> ?_)
 ·refine fu<|b1<|aX<|av<|aB Z<|cS Z Z<|aC<| ?_;refine eU Z (λ ng=> ?_) (λ ng=> ?_)
  ·refine aB Z<|va Z<|aY Z<|bD<|f_ Z Z Z<| ?_;exact ⟨G0,none,0, [], [],Z, .inr ⟨(by simpa using mv),(λ bw=>(show ¬ G0=0 by simpa using mv) (uR.2 bw.1)),Z⟩,J.aF.nil _,fG.nil _ _,λ q I=>by simp [J.ab] at I,aR⟩
  ·exfalso;omega
 ·have HW:=uR.1 (by simpa using mv);refine aB Z<|dR Z Z<|vm Z<|ec Z Z<|ec Z Z<|bh Z (λ hc=>b5 underlying34 (gt hc Z))<|bh Z (λ hc=>jg (gt hc Z) (gt hc Z))<|aa (eW Z Z Z Z)<|aJ Z<| ?_;refine du Z (λ Ou=> ?_) (λ Ou=> ?_)
  ·simp only [bn] at Ou;refine rg<|va Z<|nl<|b1<|aX<|av<|aB Z<|cS Z Z<|aC<|eT Z<|aB Z<|va Z<|aY Z<|bD<|f_ Z Z Z<| ?_;exact ⟨7,none,0, [], [],Z, .inr ⟨(by decide),(by rintro ⟨_,aG,s,hs,_⟩;have:=(aX8.1 hs).1;have:=hS.len;omega),Z⟩,J.aF.nil _,fG.nil _ _,λ q I=>by simp [J.ab] at I,aR⟩
  ·simp only [bn] at Ou;have bF:p.toNat<T.length:=by omega
   have aDa:0≤p:=by omega
   obtain ⟨gZ,ft,bG,hM,ln,hx⟩:=hS.at_ bF;refine aB Z<|vm Z<|aa (cl p.toNat underlying34 l0 Z Z ((cB.keep aR).bT (aV p.toNat)) (by omega) (by omega))<|aa (aj NQ Z)<|aa (v:= .bool bG.gone) (ax Z (J.aK.lg pe ((cB.keep aR).cD (aV p.toNat)) 2 hM Z CI))<|aJ Z<| ?_;refine du Z (λ gg=> ?_) (λ gg=> ?_)
   ·refine rg<|va Z<|nl<|b1<|aX<|av<|aB Z<|cS Z Z<|aC<|eT Z<|aB Z<|va Z<|aY Z<|bD<|f_ Z Z Z<| ?_;exact ⟨8,none,0, [], [],Z, .inr ⟨(by decide),(by rintro ⟨_,_,s,hs,aN⟩;rw [ln] at hs;obtain rfl:=aYd hs;rw [gg] at aN;cases aN),Z⟩,J.aF.nil _,fG.nil _ _,λ q I=>by simp [J.ab] at I,aR⟩
   ·refine fu<|b1<|aX<|av<|aB Z<|cS Z Z<|aC<| ?_;refine eU Z (λ jD=> ?_) (λ jD=> ?_)
    ·exfalso;omega
    ·refine bm<|aB Z<|ca YZ Z Z ((adt _ _ T S _ (cB.keep aR) (hS.keep aR)).mono ?_);rintro e BF ⟨aNp,aP3,atP,rfl,Xs,Rh,aj1,iy⟩;refine cu ?_;have hZ:=γ aR iy;refine aJ Z<|av<| ?_;have aAV:atP.length=T.length:=by have:=Rh.zN.len;have:=hS.len;omega
     refine rg<|vm Z<|vm Z<|aa (v:= .agg #[.slice none 0 0,Φ 0, .bool true]) (eu Z)<|aa (cl p.toNat underlying34 l0 Z Z (Xs.has.bT (aV p.toNat)) (by omega) (by omega))<|P' (q':=(⟨none,0,0,0,true⟩:bS)) (i:=p.toNat) Xs J.dQ (by omega) Z Z Z Z (λ _=>⟨Z,cN⟩) l0 λ wD wk RG=> ?_;have jq:=Ext.mod hZ wk (λ q I=>aYF (by omega) (Xs.lt q I).1);refine aC<|aB Z<|va Z<|aY Z<|f_ Z Z Z<| ?_;have Rh:=Rh.mod wk (cQ aj1);have bg:=fG.set (A:=none) (c:=0) (s:=⟨[],0,true⟩) (k:=p.toNat) Rh (by omega) (J.aF.nil _) (λ i u _ _ q _ I=>by simp [J.ab] at I);exact ⟨0,_,_,_,Di S p,by rw [aYn];rfl, .inl ⟨rfl,⟨HW,aDa,bG,ln,by simpa using gg⟩,rfl⟩,RG.down (by omega),bg.down (by omega),λ q κ τ=>(P6 τ).elim (λ τ=>aj1 q κ (Vp τ)) (λ τ=>by simp [J.ab] at τ),jq⟩
theorem aJC (n:Nat) (κ:1≤n) (gB:n≤8) (w:World):
  Calls prog 27 #[Φ (n:Int)] w (λ e w'=>∃ (bQ:Option Addr) (cc:Nat),e= .returned (.tuple #[.slice bQ (List.replicate n (default:bS)).length cc,Φ 0])∧bS.rep.aF 163 40 w' w.heap.size (J.ab bQ) bQ cc (List.replicate n default)∧fG w' w.heap.size (List.replicate n default) (List.replicate n ⟨[],0,false⟩)∧(∀ q∈J.ab bQ,q∉gS (List.replicate n (default:bS)))∧Ext w w'):=by
 refine ch (n:=12) func27 Z Z Z ?_;refine aw<|va Z<|aJ Z<|av<|aB Z<|dR Z Z<|vm Z<|ec Z Z<|bh Z (λ hc=>gO (gt hc Z) Z)<|aa (eW Z Z Z Z)<|aC<| ?_;refine du Z (λ hy=> ?_) (λ hy=> ?_)
 ·simp only [bn] at hy;exfalso;omega
 ·simp only [bn] at hy;refine bm<|aB Z<|aFY (R:=bS.rep) (by_:=40) (B:=w.heap.size) (c:=n) (zv:=bS.zero) (q:=default) J.qa underlying34 bS.info Z (by decide) bS.j8 (λ _=>⟨Z,b8.2 (by decide)⟩) Z Z Z (by omega) (by omega) (by omega) λ l9 Co ow Pv Ng=> ?_;refine va Z<|aY Z<|f_ Z Z Z<| ?_;exact ⟨some ⟨Co,0,none⟩,n,by rw [aYQ];rfl,Ng,fG.aIK _ _ _,λ q κ τ=>aoG τ,ow⟩
end
end Go.Proofs.YtmeeljmapailnaaGreat
