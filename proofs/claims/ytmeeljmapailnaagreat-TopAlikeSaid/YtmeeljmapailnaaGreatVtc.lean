import Derived.Test.YtmeeljmapailnaaGreatSeo
set_option linter.unusedVariables false
set_option linter.unusedSimpArgs false
set_option maxRecDepth 100000
set_option maxHeartbeats 4000000
open Go.RowKit
namespace Go.Proofs.YtmeeljmapailnaaGreat
open Tryz
abbrev aWM:=@Nat.div_div_eq_div_mul
abbrev aXY:=@Int.fdiv_eq_ediv_of_nonneg
abbrev aYn:=@Int.le_of_lt
abbrev aYx:=@BitVec.getLsbD_ofNat
section
theorem aqf:fi prog aN.rep 48 69 48:=fi.lH (z:=aN.zero) (k:=6) underlying48 aN.info rfl rfl (by decide) aN.ix
open Go.Proofs.YtmeeljmapailnaaGreat.ey
theorem aqd {α:Type} {R:aa α} {w:World} {aE e by_ c:Nat} {A:Option Addr} {l:List α} (h:R.aH e by_ w aE (aa.aj A) A c l):∀ q∈aa.aj A,∃ cur:List Value,aR w q cur e (0,0):=λ q I=>by
 obtain ⟨_,ps,_,_,⟨_,cc⟩,_⟩:=h;rcases cc with ⟨aY,_⟩ | ⟨g,cap,cur,aY,_,γ,_⟩
 ·injection aY with aY;subst aY;simp [aa.aj] at I
 ·injection aY with aY;subst aY
  obtain rfl:=aTz.1 I;exact ⟨cur.toList,by simpa [aR] using γ⟩
structure rm (w:World) (aE:Nat) (A:Option Addr) (c:Nat) (l:List aN):Prop where
 has:aN.rep.aG 48 w A c l
 lt:∀ q∈aa.aj A,aE≤q∧q<w.heap.size
 row:∀ q∈aa.aj A,∃ cur:List Value,aR w q cur 69 (0,0)
theorem aCy {A:Option Addr} {c:Nat} {l:List aN} {S:List Nat} {w w':World} (h:aN.rep.aG 48 w A c l) (m:Mod S w w') (bA:∀ q∈aa.aj A,q<w.heap.size) (hd:∀ x∈aa.aj A,x∉S):aN.rep.aG 48 w' A c l:=by
 obtain ⟨τ,ae,aw,aU,ess,bz,cb,ej⟩:=h;refine ⟨τ,ae,aw,aU,ess,bz,cb,λ aK=> ?_⟩
 ·obtain ⟨b,o,rfl,hc⟩:=ej aK;refine ⟨b,o,Z,λ j u hu=> ?_⟩;rw [← hc j u hu];have:=m.block b (bA b (aTz.2 rfl)) (hd b (aTz.2 rfl));simp only [World.cell?,this]
section
variable {w w':World} {aE sJ:Nat} {A:Option Addr} {c:Nat} {l:List aN} {T:List bD} {S:List cj} {k i:Nat}
theorem rm.mod {B:List Nat} (h:rm w aE A c l) (m:Mod B w w') (hd:∀ x∈aa.aj A,x∉B):rm w' aE A c l :=
 ⟨aCy h.has m (λ q I=>(h.lt q I).2) hd,λ q I=>⟨(h.lt q I).1,aVl (h.lt q I).2 m.size⟩,λ q I=>by
  obtain ⟨cur,γ⟩:=h.row q I;exact ⟨cur,by unfold aR;rw [m.block q γ.lt (hd q I)];exact γ⟩⟩
theorem rm.later (h:rm w aE A c l) (x:Ext w w'):rm w' aE A c l:=h.mod (B:= []) (Mod.bt x) λ _ _ h=>by simp at h
theorem rm.of (h:aN.rep.aH 69 48 w aE (aa.aj A) A c l):rm w aE A c l:=⟨h.has,λ q I=>h.lt q I,aqd h⟩
theorem ZV {lo s q:Nat} (h:q∈aa.aj (eB A c lo s)):q∈aa.aj A:=by
 unfold eB at h;split at h
 ·exact h
 ·cases A with
  | none=>exact h
  | some a =>
   have e:(a.add (lo * s)).block=a.block:=by unfold Addr.add;split<;>rfl
   have h:q∈ [(a.add (lo * s)).block]:=h;rw [e] at h;exact h
theorem rm.cut (h:rm w aE A c l) (aK:0<l.length):rm w aE (eB A c 1 6) (c - 1) (l.drop 1):=by
 have hs:=h.has.sub 1 l.length (by omega) (by omega);rw [aT0 (by rw [aTW];exact aTK _)] at hs;exact ⟨hs,λ q I=>h.lt q (ZV I),λ q I=>h.row q (ZV I)⟩
def hV (w:World) (aE:Nat) (T:List bD) (S:List cj):Prop:=T.map (λ v=>(v.late,v.gone))=S.map (λ s=>(s.late,s.gone))∧∀ (i:Nat) (v:bD),T[i]? =some v→∃ s:cj,S[i]? =some s∧v.n=s.waits.length∧rm w aE v.a v.c s.waits
theorem hV.len (h:hV w aE T S):T.length=S.length:=by have:=aUF List.length h.1;simpa using this
theorem hV.mod {B:List Nat} (h:hV w aE T S) (m:Mod B w w') (hd:∀ q∈gj T,q∉B):hV w' aE T S:=⟨h.1,λ i v ar=>by
 obtain ⟨s,τ,ae,aw⟩:=h.2 i v ar;exact ⟨s,τ,ae,aw.mod m λ q I=>hd q (s9 ar I)⟩⟩
theorem hV.later (h:hV w aE T S) (x:Ext w w'):hV w' aE T S:=⟨h.1,λ i v ar=>by
 obtain ⟨s,τ,ae,aw⟩:=h.2 i v ar;exact ⟨s,τ,ae,aw.later x⟩⟩
theorem hV.down (h:hV w aE T S) (bG:sJ≤aE):hV w sJ T S:=⟨h.1,λ i v ar=>by
 obtain ⟨s,τ,ae,aw⟩:=h.2 i v ar;exact ⟨s,τ,ae,aw.has,λ q I=>⟨aUc bG (aw.lt q I).1,(aw.lt q I).2⟩,aw.row⟩⟩
theorem hV.lt (h:hV w aE T S):∀ q∈gj T,aE≤q∧q<w.heap.size:=λ q I=>by
 obtain ⟨i,v,ar,I⟩:=Np I;obtain ⟨s,τ,ae,aw⟩:=h.2 i v ar;exact aw.lt q I
theorem hV.nil (w:World) (aE:Nat):hV w aE [] []:=⟨rfl,λ i v h=>by simp at h⟩
theorem fc.Jm (h:fc w aE T S):hV w aE T S:=⟨h.2.1,λ i v ar=>by
 obtain ⟨A,c,s,τ,ae,aw⟩:=h.get (k:=i) (aTC.1 ar).1;rw [ar] at τ;obtain rfl:=aTA τ;exact ⟨s,ae,Z,rm.of aw⟩⟩
theorem hV.yc (h:hV w aE T S):mI w T S:=by
 refine ⟨⟨by simp [h.len],λ i v ar=> ?_⟩,h.1⟩;rw [aTY] at ar;cases cr:T[i]? with
 | none=>rw [cr] at ar;cases ar
 | some u =>
  rw [cr] at ar;obtain rfl:=aTA ar;obtain ⟨s,τ,ae,aw⟩:=h.2 i u cr;exact ⟨s.waits,by rw [aTY,τ];rfl,ae,aw.has⟩
theorem hV.get (h:hV w aE T S) (au:k<T.length):∃ (A:Option Addr) (c:Nat) (s:cj),T[k]? =some ⟨A,s.waits.length,c,s.late,s.gone⟩∧S[k]? =some s∧rm w aE A c s.waits:=by
 obtain ⟨A,c,s,τ,ae,aw⟩:=h.yc.at_ au;obtain ⟨s',aU,bz,cb⟩:=h.2 k _ τ;rw [ae] at aU;obtain rfl:=aTA aU;exact ⟨A,c,s,τ,ae,cb⟩
theorem hV.set (h:hV w aE T S) {c:Nat} {s:cj} (au:k<T.length) (o:rm w aE A c s.waits):hV w aE (T.set k ⟨A,s.waits.length,c,s.late,s.gone⟩) (S.set k s):=by
 have ff:k<S.length:=by rw [← h.len];exact au
 refine ⟨by rw [aUY,aUY,h.1],λ i v ar=> ?_⟩;by_cases lQ:k=i
 ·subst lQ;rw [aT2 au] at ar;obtain rfl:=aTA ar;exact ⟨s,aT2 ff,Z,o⟩
 ·rw [aT9 lQ] at ar;obtain ⟨s',τ,ae,aw⟩:=h.2 i v ar;exact ⟨s',by rw [aT9 lQ];exact τ,ae,aw⟩
end
def vN (s:cj):cj:=if 0<s.waits.length then ⟨s.waits,0,s.gone⟩ else if s.gone=false then ⟨s.waits,min (s.late+1) 1000000,s.gone⟩ else s
def By (S:List cj) (k:Nat):List cj:=(S.take k).map vN++S.drop k
theorem aAS (S:List cj):By S S.length=S.map vN:=by unfold By;rw [aUo,List.drop_length,aT6]
theorem RD {S:List cj} {k:Nat}:(By S k)[k]? =S[k]? :=by
 unfold By;rcases aUt k S.length with h | h
 ·rw [aTU (by rw [aUz,aTD];omega),aUz,aTD,aUJ (by omega),aUy];simp
 ·rw [aUH (by simp;omega),aUH h]
theorem YH {S:List cj} {k:Nat} {s:cj} (h:S[k]? =some s):By S (k+1)=(By S k).set k (vN s):=by
 obtain ⟨au,rfl⟩:=aTC.1 h;unfold By;have e:((S.take k).map vN).length=k:=by rw [aUz,aTD];omega
 rw [aT5 au,aT8,aTX,aVs _ _ (by omega),e,aXs,aU2 au];rfl
theorem aE8 {S:List cj} {k:Nat} {s:cj} (h:u_ S) (hs:S[k]? =some s):0≤s.late∧s.late≤1000000:=by
 have τ:=(h.2.2 k s hs).2;unfold cj.qY at τ;simp only [aTM,aUT,aUl,aUj] at τ;omega
def BW (m:Nat) (x:List cj×List aN) (i:Nat):List cj×List aN:=match x.1[i]? with
 | some s=>if 0<s.waits.length∧x.2.length<m then (x.1.set i ⟨s.waits.drop 1,s.late,s.gone⟩,x.2++ [s.waits.getD 0 default]) else x
 | none=>x
def Gh (m:Nat) (x:List cj×List aN):List cj×List aN:=(List.range x.1.length).foldl (BW m) x
def C0 (m:Nat):Nat→List cj×List aN→List cj×List aN
 | 0,x=>x
 | f+1,x=>if (Gh m x).2.length=x.2.length then Gh m x else C0 m f (Gh m x)
def vo (m:Nat) (S:List cj):List cj×List aN:=C0 m (m+1) (S.map vN, [])
theorem aFO {m i:Nat} {S:List cj} {out:List aN} {s:cj} (hs:S[i]? =some s) (h:¬(0<s.waits.length∧out.length<m)):BW m (S,out) i=(S,out):=by
 unfold BW;rw [show (S,out).1[i]? =some s from hs];exact aTL h
theorem aFP {m i:Nat} {S:List cj} {out:List aN} {s:cj} (hs:S[i]? =some s) (h:0<s.waits.length∧out.length<m):BW m (S,out) i=(S.set i ⟨s.waits.drop 1,s.late,s.gone⟩,out++ [s.waits.getD 0 default]):=by
 unfold BW;rw [show (S,out).1[i]? =some s from hs];exact aTO h
theorem afk (m i:Nat) (x:List cj×List aN):(List.range (i+1)).foldl (BW m) x=BW m ((List.range i).foldl (BW m) x) i:=by rw [aVg,aUR];rfl
theorem asu {m f:Nat} {x y:List cj×List aN} (aF:Gh m x=y) (h:y.2.length=x.2.length) (hf:0<f):C0 m f x=y:=by
 obtain ⟨f,rfl⟩:∃ k,f=k+1:=⟨f - 1,by omega⟩;rw [C0,aF,aTO h]
theorem asv {m f:Nat} {x y:List cj×List aN} (aF:Gh m x=y) (h:¬ y.2.length=x.2.length) (hf:0<f):C0 m f x=C0 m (f - 1) y:=by
 obtain ⟨f,rfl⟩:∃ k,f=k+1:=⟨f - 1,by omega⟩;rw [C0,aF,aTL h];rfl
def adv (S:List cj) (m:Int):Prop:=u_ S∧1≤m∧m≤100
def aob (S:List cj) (m:Int) (e:Int) (oM:List cj) (out:List aN):Prop:=(e=0∧adv S m∧(oM,out)=vo m.toNat S)∨(e≠0∧¬ adv S m∧oM= []∧out= [])
def J4 (m:Nat) (C x:List cj×List aN) (CR:Bool):Prop:=(CR=true∧∃ f,m<f+x.2.length∧C0 m f x=C)∨(CR=false∧x=C)
theorem J4.next {m:Nat} {C x y:List cj×List aN} (h:J4 m C x true) (aF:Gh m x=y) (hm:x.2.length≤m) (aC:x.2.length≤y.2.length):J4 m C y (decide (y.2.length≠x.2.length)):=by
 rcases h with ⟨_,f,τ,ae⟩ | ⟨h,_⟩
 ·by_cases he:y.2.length=x.2.length
  ·refine .inr ⟨by simp [he], ?_⟩;rw [← ae,asu aF he (by omega)]
  ·refine .inl ⟨by simp [he],f - 1,by omega, ?_⟩;rw [← ae,asv aF he (by omega)]
 ·cases h
theorem aE6 {α:Type} {l:List α} {k:Nat} {a:α} (h:l[k]? =some a):l.set k a=l:=by
 obtain ⟨au,rfl⟩:=aTC.1 h;exact aVr au
theorem alk {T:List bD} {k q:Nat} {A:Option Addr} {n c hT bX:Nat} {l:Int} {g:Bool} (cr:T[k]? =some ⟨A,n,c,l,g⟩) (h:q∈gj (T.set k ⟨eB A c 1 6,hT,bX,l,g⟩)):q∈gj T:=(Nq h).elim Su λ h=>s9 cr (ZV h)
theorem ast {m a b:Nat} {g:Bool} (h:g=decide (b≠a)) (τ:a≤b) (ae:b≤m):m+1 - b+g.toNat<m+1 - a+true.toNat:=by
 subst h;by_cases e:b=a
 ·subst e;simp
 ·simp [e];omega
theorem aE3 (A:Option Addr) (c:Nat) (T:List bD) (S:List cj) (m:Int) (w:World) (cr:bD.rep.aG 40 w A c T) (hS:mI w T S):
  Calls prog 96 #[.slice A T.length c,J m] w (λ e w'=>∃ (e':Int) (bL:Option Addr) (bX:Nat) (j9:List bD) (oM:List cj) (j6:Option Addr) (co:Nat) (out:List aN),e= .returned (.tuple #[.slice bL j9.length bX, .slice j6 out.length co,J e'])∧aob S m e' oM out∧bD.rep.aH 163 40 w' w.heap.size (aa.aj bL) bL bX j9∧hV w' w.heap.size j9 oM∧aN.rep.aH 69 48 w' w.heap.size (aa.aj j6) j6 co out∧(∀ q∈aa.aj bL,q∉gj j9)∧(∀ q∈aa.aj j6,q∉aa.aj bL∧q∉gj j9)∧Ext w w'):=by
 have Ir:=cr.eZ;have Q9:=cr.2.2.1;refine b' (n:=102) func96 Z Z Z ?_;refine ah<|va Z<|va Z<|va Z<|ag<|ay<|ah<|vm Z<|ca P9 Z Z ((St _ _ T S _ (cr.keep (Ext.bg w)) (hS.keep (Ext.bg w))).mono ?_);rintro e iH ⟨Ez,rfl,sV,bq⟩;refine ⟨_,Z, ?_⟩;have:=bq.size;have b9:=ab (Ext.bg w) bq;refine va Z<|ag<|ah<|vm Z<|Φ (bne Z Z)<|ag<| ?_;refine ee Z (λ lg=> ?_) (λ lg=> ?_)
 ·refine ah<|vm Z<|va Z<|va Z<|va Z<|ag<|rt<|bP<|aV (.tmp Z (.tmp Z (.tmp Z .nil)))<| ?_;exact ⟨Ez,none,0, [], [],none,0, [],Z, .inr ⟨(by simpa using lg),(λ bc=>(show ¬ Ez=0 by simpa using lg) (sV.2 bc.1)),Z,Z⟩,aa.aH.nil _,hV.nil _ _,aa.aH.nil _,λ q I=>by simp [aa.aj] at I,λ q I=>by simp [aa.aj] at I,b9⟩
 ·have Fm:=sV.1 (by simpa using lg);refine bl<|ay<|ah<|vm Z<|Φ (blt Z Z)<|vm Z<|eN Z Z<|bh Z (λ hc=>hM (gt hc Z) Z)<|Φ (fC Z Z Z Z)<|ag<| ?_;refine dn Z (λ jr=> ?_) (λ jr=> ?_)
  ·simp only [ch] at jr;refine ah<|va Z<|va Z<|va Z<|ag<|rt<|bP<|aV (.tmp Z (.tmp Z (.tmp Z .nil)))<| ?_;exact ⟨1,none,0, [], [],none,0, [],Z, .inr ⟨(by decide),(λ bc=>by have:=bc.2;omega),Z,Z⟩,aa.aH.nil _,hV.nil _ _,aa.aH.nil _,λ q I=>by simp [aa.aj] at I,λ q I=>by simp [aa.aj] at I,b9⟩
  ·simp only [ch] at jr;have Is:1≤m∧m≤100:=by omega
   refine bl<|ah<|vm Z<|ca VW Z Z ((Z9 _ _ T S _ (cr.keep b9) (hS.keep b9)).mono ?_);rintro e NJ ⟨qx,ed,AX,rfl,apt,abY,axO,aHW⟩;refine ⟨_,Z, ?_⟩;have tB:=ab b9 aHW;refine va Z<|ag<|ay<|ah<|vm Z<|Φ (cl underlying34 Z)<|vm Z<|ag<|bu<| ?_;have agX:AX.length=S.length:=abY.yc.len;have LQ:=hS.len;have aoZ:hV NJ iH.heap.size AX (By S 0):=abY.Jm;refine dx (λ bZ bS aL=>∃ k:Nat,∃ nh:List bD,bS= [(0, .slice qx AX.length ed),(1,J m),(4, .slice none 0 0),(5, .slice none 0 0),(6,J 0),(28,J (AX.length:Int)),(29,J (k:Int))]∧bZ=S.length - k∧Ext w aL∧bD.rep.aH 163 40 aL iH.heap.size (aa.aj qx) qx ed nh∧hV aL iH.heap.size nh (By S k)∧(k≤S.length)∧(nh.length=S.length)∧(∀ q∈gj nh,q∈aa.aj qx→False)) _ _ ⟨0,AX,Z,Z,tB,apt,aoZ,by omega,agX,λ q τ ae=>axO q ae τ⟩ (.cons Z (.cons Z (.cons Z (.cons Z (.cons Z (.cons Z (.cons (bH Z) .nil))))))) ?_;rintro MU aoi Af ⟨k,nh,rfl,rfl,iL,y2,uT,au,ui,Dj⟩;refine ah<|Φ (blt Z Z)<|ag<|ay<| ?_;refine df Z (λ lf=> ?_) (λ lf=> ?_)
   ·obtain ⟨eF,dC,bk,gw,jG,aKy⟩:=uT.get (k:=k) (by omega);rw [RD] at jG;have rT:=aE8 Fm jG;refine bl<|ay<|bu<|ah<|vm Z<|va Z<|ag<|ah<|vm Z<|vm Z<|Φ (bT k underlying34 iB Z Z (y2.has.bs (aO k)) Z (by omega))<|va Z<|ag<|bu<|ah<|vm Z<|Φ (cf Z)<|Φ (av pL Z)<| ?_;refine Φ (v:= .slice eF bk.waits.length dC) (ao Z (aa.aG.jT mQ (y2.has.cg (aO k)) 0 gw Z mM))<|Φ (cl underlying48 Z)<|Φ (hM Z Z)<|va Z<|ag<| ?_;refine df Z (λ n3=> ?_) (λ n3=> ?_)
    ·refine rg<|vm Z<|Φ (cf Z)<|Φ (av C' Z)<|so (q':=(⟨(⟨eF,bk.waits.length,dC,bk.late,bk.gone⟩:bD).a,(⟨eF,bk.waits.length,dC,bk.late,bk.gone⟩:bD).n,(⟨eF,bk.waits.length,dC,bk.late,bk.gone⟩:bD).c,0,(⟨eF,bk.waits.length,dC,bk.late,bk.gone⟩:bD).gone⟩:bD)) (j:=1) (i:=k) y2 aa.dj gw Z Z Z Z (λ _ cs h=>by have qe:=(show _∧_ from h).2;obtain rfl:=mQ h;exact ⟨rfl,bY.2 (by (try dsimp only);omega)⟩) Z Z dI λ yj BH O'=> ?_;have l3:=Ext.mod iL BH (λ q I=>aUc (by omega) (y2.lt q I).1);refine nl<|bU<|bU<|aP<|rg<|Φ (bad Z Z (bf (by omega)))<|vm Z<|nl<| ?_;have uT:=uT.mod BH (λ q I h=>Dj q I h);obtain ⟨_,Lo,_,Uu⟩:=uT.2 k _ gw;obtain rfl:=aTA ((RD.trans jG).symm.trans Lo);have W1:vN bk=⟨bk.waits,0,bk.gone⟩:=by unfold vN;rw [aTO (by omega)]
     exact cD _ _ ⟨k+1,(nh).set k ((⟨(⟨eF,bk.waits.length,dC,bk.late,bk.gone⟩:bD).a,(⟨eF,bk.waits.length,dC,bk.late,bk.gone⟩:bD).n,(⟨eF,bk.waits.length,dC,bk.late,bk.gone⟩:bD).c,0,(⟨eF,bk.waits.length,dC,bk.late,bk.gone⟩:bD).gone⟩:bD)),Z,Z,l3,O',(by rw [YH jG,W1];exact hV.set (s:=⟨bk.waits,0,bk.gone⟩) uT (by omega) Uu),by omega,by rw [aTH];exact ui,λ q τ ae=>(Nq τ).elim (λ τ=>Dj q (Su τ) ae) (λ τ=>Dj q (s9 gw τ) ae)⟩ (by omega) (.cons Z (.cons Z (.cons Z (.cons Z (.cons Z (.cons Z (.cons (bH Z) .nil)))))))
    ·refine ah<|vm Z<|Φ (cf Z)<|Φ (av Fb Z)<|Φ (v:= .bool bk.gone) (ao Z (aa.aG.jT mQ (y2.has.cg (aO k)) 2 gw Z Da))<|Φ (ek Z)<|va Z<|ag<| ?_;refine dn Z (λ oV=> ?_) (λ oV=> ?_)
     ·simp only [aUT,aVm] at oV;refine rg<|vm Z<|vm Z<|Φ (cf Z)<|Φ (av C' Z)<|Φ (v:=J bk.late) (ao Z (aa.aG.jT mQ (y2.has.cg (aO k)) 1 gw Z a6))<|Φ (bad Z Z (bf (by omega)))<|Φ (mY Z Z)<|Φ (cf Z)<|Φ (av C' Z)<|so (q':=(⟨(⟨eF,bk.waits.length,dC,bk.late,bk.gone⟩:bD).a,(⟨eF,bk.waits.length,dC,bk.late,bk.gone⟩:bD).n,(⟨eF,bk.waits.length,dC,bk.late,bk.gone⟩:bD).c,min (bk.late+1) 1000000,(⟨eF,bk.waits.length,dC,bk.late,bk.gone⟩:bD).gone⟩:bD)) (j:=1) (i:=k) y2 aa.dj gw Z Z Z Z (λ _ cs h=>by have qe:=(show _∧_ from h).2;obtain rfl:=mQ h;exact ⟨rfl,bY.2 (by (try dsimp only);omega)⟩) Z Z dI λ Ag jh sH=> ?_;have oB:=Ext.mod iL jh (λ q I=>aUc (by omega) (y2.lt q I).1);refine nl<|bU<|bU<|aP<|rg<|Φ (bad Z Z (bf (by omega)))<|vm Z<|nl<| ?_;have uT:=uT.mod jh (λ q I h=>Dj q I h);obtain ⟨_,Lo,_,Uu⟩:=uT.2 k _ gw;obtain rfl:=aTA ((RD.trans jG).symm.trans Lo);have W1:vN bk=⟨bk.waits,min (bk.late+1) 1000000,bk.gone⟩:=by unfold vN;rw [aTL (by omega),aTO oV]
      exact cD _ _ ⟨k+1,(nh).set k ((⟨(⟨eF,bk.waits.length,dC,bk.late,bk.gone⟩:bD).a,(⟨eF,bk.waits.length,dC,bk.late,bk.gone⟩:bD).n,(⟨eF,bk.waits.length,dC,bk.late,bk.gone⟩:bD).c,min (bk.late+1) 1000000,(⟨eF,bk.waits.length,dC,bk.late,bk.gone⟩:bD).gone⟩:bD)),Z,Z,oB,sH,(by rw [YH jG,W1];exact hV.set (s:=⟨bk.waits,min (bk.late+1) 1000000,bk.gone⟩) uT (by omega) Uu),by omega,by rw [aTH];exact ui,λ q τ ae=>(Nq τ).elim (λ τ=>Dj q (Su τ) ae) (λ τ=>Dj q (s9 gw τ) ae)⟩ (by omega) (.cons Z (.cons Z (.cons Z (.cons Z (.cons Z (.cons Z (.cons (bH Z) .nil)))))))
     ·simp only [aUT,aVm] at oV;refine ei<|bU<|bU<|aP<|rg<|Φ (bad Z Z (bf (by omega)))<|vm Z<|nl<| ?_;exact cD _ _ ⟨k+1,nh,Z,Z,iL,y2,(by rw [YH jG,show vN bk=bk from by unfold vN;rw [aTL (by omega),aTL (by rw [oV];decide)],aE6 (by rw [RD];exact jG)];exact uT),by omega,ui,Dj⟩ (by omega) (.cons Z (.cons Z (.cons Z (.cons Z (.cons Z (.cons Z (.cons (bH Z) .nil)))))))
   ·have lO:k=S.length:=by omega
    subst lO;rw [aAS] at uT;refine cV<|cU<|c'<|cT<|aP<|ah<|va Z<|ag<|ay<|ah<|va Z<|ag<|bu<| ?_;refine dx (λ bZ bS aL=>∃ CQ:List bD,∃ CP:List cj,∃ dw:Option Addr,∃ iR:Nat,∃ out:List aN,∃ CR:Bool,bS= [(0, .slice qx AX.length ed),(1,J m),(4, .slice none 0 0),(5, .slice none 0 0),(6,J 0),(10, .slice dw out.length iR),(11, .bool CR)]∧bZ=m.toNat+1 - out.length+CR.toNat∧Ext w aL∧bD.rep.aH 163 40 aL iH.heap.size (aa.aj qx) qx ed CQ∧aN.rep.aH 69 48 aL w.heap.size (aa.aj dw) dw iR out∧hV aL iH.heap.size CQ CP∧(J4 m.toNat (vo m.toNat S) (CP,out) CR)∧(CQ.length=S.length)∧(out.length≤m.toNat)∧(∀ q∈gj CQ,q∈aa.aj qx→False)∧(∀ q∈gj CQ,q∈aa.aj dw→False)∧(CP.length=S.length)∧(∀ q∈aa.aj dw,q∈aa.aj qx→False)) _ _ ⟨nh,(S.map vN),none,0, [],true,Z,Z,iL,y2,(aa.aH.nil _),uT, .inl ⟨Z,_,by simp,rfl⟩,ui,by simp,Dj,λ q τ ae=>by simp [aa.aj] at ae,by simp,(λ q I γ=>by (simp [aa.aj] at I))⟩ (hB Z) ?_;rintro lG aJV yk ⟨CQ,CP,dw,iR,out,CR,rfl,rfl,lu,ach,acf,ab0,fr,agT,ahj,hdr,Rj,agS,ad6⟩;refine ay<|ah<|vm Z<|ag<| ?_;refine dn Z (λ pR=> ?_) (λ pR=> ?_)
    ·rw [pR] at fr;refine bl<|bu<|ah<|va Z<|ag<|ah<|vm Z<|Φ (cl underlying34 Z)<|vm Z<|ag<|bu<| ?_;refine dx (λ bZ bS aL=>∃ i:Nat,∃ y5:List bD,∃ ER:List cj,∃ yM:Option Addr,∃ ci:Nat,∃ dN:List aN,∃ zp:Bool,bS= [(0, .slice qx AX.length ed),(1,J m),(4, .slice none 0 0),(5, .slice none 0 0),(6,J 0),(10, .slice yM dN.length ci),(11, .bool zp),(61, .bool CR),(62, .slice qx AX.length ed),(63,J (AX.length:Int)),(64,J (i:Int))]∧bZ=S.length - i∧Ext w aL∧bD.rep.aH 163 40 aL iH.heap.size (aa.aj qx) qx ed y5∧aN.rep.aH 69 48 aL w.heap.size (aa.aj yM) yM ci dN∧hV aL iH.heap.size y5 ER∧(i≤S.length)∧(y5.length=S.length)∧(dN.length≤m.toNat)∧(∀ q∈gj y5,q∈aa.aj qx→False)∧(∀ q∈gj y5,q∈aa.aj yM→False)∧(ER.length=S.length)∧((ER,dN)=(List.range i).foldl (BW m.toNat) (CP,out))∧(zp=decide (dN.length≠out.length))∧(out.length≤dN.length)∧(∀ q∈aa.aj yM,q∈aa.aj qx→False)) _ _ ⟨0,CQ,CP,dw,iR,out,false,Z,Z,lu,ach,acf,ab0,by omega,agT,ahj,hdr,Rj,agS,rfl,(by simp),aTK _,(λ q I γ=>by (exact ad6 q I γ))⟩ (.cons Z (.cons Z (.cons Z (.cons Z (.cons Z (.cons Z (.cons Z (.cons Z (.cons Z (.cons Z (.cons (bH Z) .nil))))))))))) ?_;rintro F6 aok Jy ⟨i,y5,ER,yM,ci,dN,zp,rfl,rfl,qv,wQ,Hd,CB,ar,XY,X4,LJ,L0,XX,hF,We,X5,E5⟩;have:=qv.size;have amm:=b7 wQ.lt;have aGr:∀ q∈gj y5,q<Jy.heap.size:=λ q I=>(CB.lt q I).2;refine ah<|Φ (blt Z Z)<|ag<|ay<| ?_;refine df Z (λ Lt=> ?_) (λ Lt=> ?_)
     ·obtain ⟨eF,dC,bk,gw,jG,EU⟩:=CB.get (k:=i) (by omega);refine bl<|ay<|bu<|ah<|vm Z<|va Z<|ag<|ah<|vm Z<|vm Z<|Φ (bT i underlying34 iB Z Z (wQ.has.bs (aO i)) Z (by omega))<|va Z<|ag<|ah<|vm Z<|Φ (cf Z)<|Φ (av pL Z)<|Φ (v:= .slice eF bk.waits.length dC) (ao Z (aa.aG.jT mQ (wQ.has.cg (aO i)) 0 gw Z mM))<| ?_;refine Φ (cl underlying48 Z)<|Φ (hM Z Z)<|vm Z<|eN Z Z<|bh Z (λ hc=>cl underlying48 (gt hc Z))<|eN Z Z<|bh Z (λ hc=>blt (gt hc Z) (gt hc Z))<|Φ (dv Z Z Z Z)<|ag<| ?_;refine dn Z (λ Dg=> ?_) (λ Dg=> ?_)
      ·simp only [ch] at Dg;have vB:0<bk.waits.length∧dN.length<m.toNat:=by omega
       obtain ⟨_,Lo,_,EU⟩:=CB.2 i _ gw;obtain rfl:=aTA (jG.symm.trans Lo);have PX:∀ q∈aa.aj eF,q∈aa.aj qx→False:=λ q τ ae=>LJ q (s9 gw τ) ae;have aef:∀ q∈aa.aj eF,q∈aa.aj yM→False:=λ q τ ae=>L0 q (s9 gw τ) ae;have ay1:(bk.waits.getD 0 default).ok:=aN.k_ EU.has _ (gP vB.1);refine Sn (aa.aj yM) [(5,0),(7,0),(8,2),(9,2),(13,0),(18,3)] [0,1,2,3,4,5,6,7,10,11,12,13,14,8,9,15,16,17,18,19] (by kernel_rfl) (by kernel_rfl) ?_;refine jF Z Z (λ _=>hy Z) Z<|jF Z Z (λ _=>hy Z) Z<|jF Z Z (λ _=>hy Z) Z<|jF Z Z (λ _=>cf Z) Z<|jF Z Z (λ _=>av pL Z) Z<|zo (v:= .slice eF bk.waits.length dC) Z Z (λ _ x=>ao Z (aa.aG.jT mQ ((wQ.mod x (λ q I h=>E5 q h I)).has.cg (aO i)) 0 gw Z mM)) Z<|jF Z Z (λ _=>bT 0 underlying48 fl Z Z (EU.has.bs (aO 0)) Z (by omega)) Z<|zo Z Z (λ _ x=>ao Z (aa.aG.er Fz ((EU.mod x (λ q I h=>aef q I h)).has.cg (aO 0)) (cA (l:=bk.waits) (u:=default) (j:=0) (by omega)) jc fl)) Z<|jF Z Z (λ _=>hy Z) Z<|jF Z Z (λ _=>cf Z) Z<|jF Z Z (λ _=>av pL Z) Z<|zo (v:= .slice eF bk.waits.length dC) Z Z (λ _ x=>ao Z (aa.aG.jT mQ ((wQ.mod x (λ q I h=>E5 q h I)).has.cg (aO i)) 0 gw Z mM)) Z<|jF Z Z (λ _=>ZX 1 underlying48 fl Z Z Z (by omega)) Z<|Fj Z Z Z λ Ed iW Q hK=>cu (e:= 69) (cs:= [J ((bk.waits.getD 0 default).by_),J ((bk.waits.getD 0 default).kind),J ((bk.waits.getD 0 default).aW),J ((bk.waits.getD 0 default).spot.x),J ((bk.waits.getD 0 default).spot.y),J ((bk.waits.getD 0 default).what)]) Z (λ _=>by kernel_rfl) Z λ Ai ve kl YG wF=>hK _ _ ⟨Mod.bt (ab iW kl), ?_⟩;have:=iW.size;have nb:=ab qv iW;have kH:=ab nb kl;have Si:=wF.lt;have Hd:=Hd.later (ab iW kl);refine Fj Z Z Z λ Ta nP Q hK=>ap aqf aa.dj (Hd.later nP) ((aR.gY (R:=aN.rep) (by_:=48) (q:=bk.waits.getD 0 default) wF ⟨Z,ay1⟩ (by decide)).keep nP) Z Z (by simp only [aTI,aTN];omega) (by simp only [aTI,aTN];omega) (by have:=nP.size;omega) Z λ JA G3 vh ky AV vz aj6=>hK _ _ ⟨(Mod.bt nP).trans ky, ?_⟩;have:=nP.size;have Cj:=ab kH nP;have uJ:=Ext.mod Cj ky (λ q I=>aUc (by omega) ((Hd.later nP).lt q I).1);refine jF Z Z (λ _=>fG Z) Z<|jF Z Z (λ _=>cf Z) Z<|jF Z Z (λ _=>av pL Z) Z<| ?_;have wQ:=(wQ.later (ab iW (ab kl nP))).mod ky (λ q I h=>E5 q h I);refine Wn Z Z Z λ NO jz Q hK=>so (q':=(⟨eB eF dC 1 6,bk.waits.length - 1,dC - 1,(⟨eF,bk.waits.length,dC,bk.late,bk.gone⟩:bD).late,(⟨eF,bk.waits.length,dC,bk.late,bk.gone⟩:bD).gone⟩:bD)) (j:=0) (i:=i) (wQ.later jz) aa.dj gw Z Z Z Z (λ _ cs h=>by have qe:=(show _∧_ from h).2;obtain rfl:=mQ h;exact ⟨rfl,qe⟩) Z Z zh λ Tc p' UL=>hK _ _ ?_;have uL:=ab uJ jz;have yD:=Ext.mod uL p' (λ q I=>aUc (by omega) ((wQ.later jz).lt q I).1);refine jF Z Z (λ _=>fG Z) Z<|Qq λ Tf N4=> ?_;have sz:=ab yD N4;refine bU<|aP<|rg<|Φ (bad Z Z (bf (by omega)))<|vm Z<|nl<| ?_;have UL:=UL.later N4;have AV:=((AV.later jz).mod p' (λ q I h=>by exfalso;(exact aTT (vz q I) (λ MI=>by (exact E5 q MI h)) (λ MI=>by (have:=amm q h;omega))))).later N4;have CB:=((((CB.later (ab iW (ab kl nP))).mod ky (λ q I h=>L0 q I h)).later jz).mod p' (λ q I h=>LJ q I h)).later N4;have EU:=((((EU.later (ab iW (ab kl nP))).mod ky (λ q I h=>aef q I h)).later jz).mod p' (λ q I h=>PX q I h)).later N4;have awP:=EU.cut vB.1;have lD:(bk.waits.drop 1).length=bk.waits.length - 1:=aTW;exact cD _ _ ⟨i+1,(y5).set i ((⟨eB eF dC 1 6,bk.waits.length - 1,dC - 1,(⟨eF,bk.waits.length,dC,bk.late,bk.gone⟩:bD).late,(⟨eF,bk.waits.length,dC,bk.late,bk.gone⟩:bD).gone⟩:bD)),ER.set i ⟨bk.waits.drop 1,bk.late,bk.gone⟩,G3,vh,dN++ [bk.waits.getD 0 default],true,Z,Z,sz,UL,AV,(by have bc:=hV.set (s:=⟨bk.waits.drop 1,bk.late,bk.gone⟩) (k:=i) CB (by omega) awP;rw [lD] at bc;exact bc),by omega,by rw [aTH];exact XY,by rw [aTE,aUq];omega,λ q τ ae=>LJ q (alk gw τ) ae,λ q τ ae=>(λ τ=>by (exact aTT (vz q ae) (λ DH=>by (exact L0 q τ DH)) (λ DH=>by (have:=aGr q τ;omega)))) (alk gw τ),by rw [aTH];exact XX,by rw [afk,← hF,aFP jG vB],by rw [aTE,aUq];exact (aT3 (by omega)).symm,by rw [aTE,aUq];omega,(λ q I γ=>by (exact aTT (vz q I) (λ ai6=>by (exact E5 q ai6 γ)) (λ ai6=>by (have:=amm q γ;omega))))⟩ (by omega) (.cons Z (.cons Z (.cons Z (.cons Z (.cons Z (.cons Z (.cons Z (.cons Z (.cons Z (.cons Z (.cons (bH Z) .nil)))))))))))
      ·simp only [ch] at Dg;have vB:¬(0<bk.waits.length∧dN.length<m.toNat):=by omega
       refine ei<|bU<|aP<|rg<|Φ (bad Z Z (bf (by omega)))<|vm Z<|nl<| ?_;exact cD _ _ ⟨i+1,y5,ER,yM,ci,dN,zp,Z,Z,qv,wQ,Hd,CB,by omega,XY,X4,LJ,L0,XX,by rw [afk,← hF,aFO jG vB],We,X5,(λ q I γ=>by (exact E5 q I γ))⟩ (by omega) (.cons Z (.cons Z (.cons Z (.cons Z (.cons Z (.cons Z (.cons Z (.cons Z (.cons Z (.cons Z (.cons (bH Z) .nil)))))))))))
     ·have Ff:i=S.length:=by omega
      refine cV<|cU<|c'<|cT<|bU<| ?_;exact cD _ _ ⟨y5,ER,yM,ci,dN,zp,Z,Z,qv,wQ,Hd,CB,by rw [We];exact J4.next fr (by unfold Gh;rw [show (CP,out).1.length=S.length from agS,← Ff];exact hF.symm) ahj X5,XY,X4,LJ,L0,XX,(λ q I γ=>by (exact E5 q I γ))⟩ (by rw [pR];exact ast We X5 X4) (hB Z)
    ·refine cV<|cU<|c'<|cT<|aP<|ah<|vm Z<|vm Z<|va Z<|va Z<|va Z<|ag<|rt<|aV (.tmp Z (.tmp Z (.tmp Z .nil)))<| ?_;exact ⟨0,_,_,CQ,CP,dw,iR,out,by rw [agT,agX];rfl, .inl ⟨rfl,⟨Fm,Is⟩,(by rcases fr with ⟨bc,_⟩ | ⟨_,bc⟩;exact absurd bc (by simp [pR]);exact bc)⟩,ach.down (by omega),ab0.down (by omega),acf,λ q τ ae=>hdr q ae τ,λ q τ=>⟨λ ae=>by exfalso;(exact ad6 q τ ae),λ ae=>Rj q ae τ⟩,lu⟩
end
end Go.Proofs.YtmeeljmapailnaaGreat
namespace Go.Proofs.YtmeeljmapailnaaGreat.b5
open Tryz
def nk:Nat→Nat→Nat
 | 0,_=>0
 | f+1,x=>x % 2+nk f (x / 2)
theorem Vu (f g x:Nat):nk (f+g) x=nk f x+nk g (x / 2 ^ f):=by
 induction f generalizing x with
 | zero=>simp [nk]
 | succ f bK =>
  rw [Nat.succ_add,nk,nk,bK,aWM,aWL,aUU 2];omega
theorem Vv (f x:Nat):nk f (x % 2 ^ f)=nk f x:=by
 induction f generalizing x with
 | zero=>rfl
 | succ f bK =>
  rw [nk,nk,aWL];have τ:x % (2 ^ f * 2) % 2=x % 2:=Nat.mod_mod_of_dvd _ ⟨2 ^ f,aUU _ _⟩;have ae:x % (2 ^ f * 2) / 2=x / 2 % 2 ^ f:=by rw [aUU,Nat.mod_mul_right_div_self]
  rw [τ,ae,bK]
theorem KN (f x:Nat):nk f x≤f:=by
 induction f generalizing x with
 | zero=>exact aTK _
 | succ f bK=>have:=bK (x / 2);rw [nk];omega
def size (x:Nat):Nat:=nk 32 x
theorem size_bytes (x:Nat) (h:x<4294967296):size x=nk 8 (x / 16777216)+nk 8 (x / 65536 % 256)+nk 8 (x / 256 % 256)+nk 8 (x % 256):=by
 unfold size;rw [show (32:Nat)=8+(8+(8+8)) from rfl,Vu,Vu,Vu,aWM,aWM];rw [show (256:Nat)=2 ^ 8 from rfl,Vv,Vv,Vv];simp only [Nat.reducePow,Nat.reduceMul];omega
theorem Sb (n:Nat) (h:n<256):Lib.pop8 (n:Int)=(nk 8 n:Int):=by
 have e:=Lib.pop8_eq ⟨n,h⟩;have bb:∀ m:Fin 256,Lib.onesCount m.val=nk 8 m.val:=by decide +kernel
 rw [bb ⟨n,h⟩] at e;exact e
end Go.Proofs.YtmeeljmapailnaaGreat.b5
namespace Go.Proofs.YtmeeljmapailnaaGreat
open Tryz
end Go.Proofs.YtmeeljmapailnaaGreat
namespace Go.Proofs.YtmeeljmapailnaaGreat.b5
open Tryz
open Go.RowKit Go.Proofs.YtmeeljmapailnaaGreat Go.Proofs.YtmeeljmapailnaaGreat.ey

theorem aEo {a b:Int} (h:a=b):Ending.returned (.int .i64 a)= .returned (.int .i64 b):=by rw [h]
theorem UZ (a:Nat) (h:a<4294967296):bits .and .u32 (a:Int) 255=((a % 256:Nat):Int):=by
 have τ:=(aXL .u32 32 (by decide) (fun n aK τ=>by simp [IntKind.wrap,IntKind.signed,IntKind.bits];omega) a 255 (by omega) (by omega)).1;have e:a &&& 255=a % 256:=Nat.and_two_pow_sub_one_eq_mod a 8;rw [e] at τ;exact τ
@[go_sem high] theorem aMz:(⟨((([0,1,1,2,1,2,2,3,1,2,2,3,2,3,3,4,1,2,2,3,2,3,3,4,2,3,3,4,3,4,4,5,1,2,2,3,2,3,3,4,2,3,3,4,3,4,4,5,2,3,3,4,3,4,4,5,3,4,4,5,4,5,5,6]:List UInt8).append [1,2,2,3,2,3,3,4,2,3,3,4,3,4,4,5,2,3,3,4,3,4,4,5,3,4,4,5,4,5,5,6,2,3,3,4,3,4,4,5,3,4,4,5,4,5,5,6,3,4,4,5,4,5,5,6,4,5,5,6,5,6,6,7]).append (([1,2,2,3,2,3,3,4,2,3,3,4,3,4,4,5,2,3,3,4,3,4,4,5,3,4,4,5,4,5,5,6,2,3,3,4,3,4,4,5,3,4,4,5,4,5,5,6,3,4,4,5,4,5,5,6,4,5,5,6,5,6,6,7]:List UInt8).append [2,3,3,4,3,4,4,5,3,4,4,5,4,5,5,6,3,4,4,5,4,5,5,6,4,5,5,6,5,6,6,7,3,4,4,5,4,5,5,6,4,5,5,6,5,6,6,7,4,5,5,6,5,6,6,7,5,6,6,7,6,7,7,8])).toArray⟩:ByteArray)=Lib.pop8tab:=by decide +kernel
theorem asy (n:Nat) (hn:n<4294967296) (w:World):
  Calls prog 181 #[.int .u32 (n:Int)] w fun e w'=>e= .returned (.int .i64 (size n:Int))∧∃ q,w'=w.drewN q:=by
 have d1:(n:Int) / 16777216=((n / 16777216:Nat):Int):=by omega
 have d2:(n:Int) / 65536=((n / 65536:Nat):Int):=by omega
 have d3:(n:Int) / 256=((n / 256:Nat):Int):=by omega
 have a2:=UZ (n / 65536) (by omega);have a3:=UZ (n / 256) (by omega);have a4:=UZ n hn;have eH:=Sb (n / 16777216) (by omega);have fa:=Sb (n / 65536 % 256) (by omega);have mh:=Sb (n / 256 % 256) (by omega);have v_:=Sb (n % 256) (by omega);have i1:(0:Int)≤((n / 16777216:Nat):Int)∧((n / 16777216:Nat):Int)≤255:=by omega
 have i2:(0:Int)≤((n / 65536 % 256:Nat):Int)∧((n / 65536 % 256:Nat):Int)≤255:=by omega
 have i3:(0:Int)≤((n / 256 % 256:Nat):Int)∧((n / 256 % 256:Nat):Int)≤255:=by omega
 have i4:(0:Int)≤((n % 256:Nat):Int)∧((n % 256:Nat):Int)≤255:=by omega
 have c1:=KN 8 (n / 16777216);have c2:=KN 8 (n / 65536 % 256);have c3:=KN 8 (n / 256 % 256);have c4:=KN 8 (n % 256);rw [size_bytes n hn];generalize n / 16777216=hL at *
 generalize n / 65536=ia at *
 generalize n / 256=sb at *
 generalize ia % 256=dH at *
 generalize sb % 256=gy at *
 generalize dK:n % 256=y9 at *
 obtain ⟨i10,i11⟩:=i1;obtain ⟨i20,i21⟩:=i2;obtain ⟨i30,i31⟩:=i3;obtain ⟨i40,i41⟩:=i4;go_enter func181,ntmps181;go_wp2_with fail
 go_quiet (fail)
 go_wp2_with fail
 go_ret;exact ⟨aEo (by push_cast;rfl),nq,Z⟩

theorem asz (n:Nat) (hn:n<4294967296) (w:World):
  Calls prog 162 #[.int .u32 (n:Int)] w fun e w'=>e= .returned (.int .i64 (size n:Int))∧∃ q,w'=w.drewN q:=by
 go_enter func162,ntmps162;go_wp2_with fail
 refine (asy n hn _).mono ?_;rintro e w' ⟨rfl,q,rfl⟩;go_wp2_with fail
 go_ret;exact ⟨Z,q,Z⟩
def zT (t:Int):List Nat→Nat→Int
 | [],_=> -1
 | x::xs,i=>if t≤(size x:Int) then (i:Int) else zT t xs (i+1)
def Sets (w:World) (b o:Nat) (l:List Nat):Prop:=∀ k,(h:k<l.length)→w.cell? ⟨b,o+k,none⟩=some (.int .u32 ((l[k]:Nat):Int))∧l[k]<4294967296
theorem Sets.later {w w':World} {b o:Nat} {l:List Nat} (h:Sets w b o l) (γ:Below w.heap.size w w'):Sets w' b o l :=
 fun k au=>⟨cell_later γ (h k au).1,(h k au).2⟩
end Go.Proofs.YtmeeljmapailnaaGreat.b5
namespace Go.Proofs.YtmeeljmapailnaaGreat
open Tryz
end Go.Proofs.YtmeeljmapailnaaGreat
namespace Go.Proofs.YtmeeljmapailnaaGreat.b5
open Tryz
open Go.RowKit Go.Proofs.YtmeeljmapailnaaGreat.ey
def diff (a b:Nat):Nat:=(BitVec.ofNat 32 a &&& ~~~BitVec.ofNat 32 b).toNat
theorem KX (a b:Nat):diff a b<4294967296:=(BitVec.ofNat 32 a &&& ~~~BitVec.ofNat 32 b).isLt
theorem as6 (a b i:Nat) (ha:a<4294967296) (ar:i<32):(diff a b).testBit i=(a.testBit i && !b.testBit i):=by
 unfold diff;rw [BitVec.testBit_toNat,BitVec.getLsbD_and,BitVec.getLsbD_not,aYx,aYx];simp [ar]
theorem akh (a:Nat):BitVec.ofInt 32 (a:Int)=BitVec.ofNat 32 a:=aCF a
theorem as7 (a b:Nat):bits .andNot .u32 (a:Int) (b:Int)=(diff a b:Int):=by
 have h:=Qj (x:=bits .andNot .u32 (a:Int) (b:Int)) (b:=BitVec.ofNat 32 a &&& ~~~BitVec.ofNat 32 b) (Pz _ _ _) (Py _ _ _) (by rw [aCC,akh,akh]);exact h
theorem Tq (n:Int) (azR:0≤n) (h₁:n<2 ^ 32):IntKind.u32.wrap n=n:=by simp [IntKind.wrap,IntKind.signed,IntKind.bits];omega
theorem aCN (a b:Nat) (ha:a<4294967296) (γ:b<4294967296):bits .or .u32 (a:Int) (b:Int)=((a ||| b:Nat):Int):=(aXL .u32 32 (by decide) Tq a b ha γ).2
theorem aqI (a b:Nat) (ha:a<4294967296) (γ:b<4294967296):bits .and .u32 (a:Int) (b:Int)=((a &&& b:Nat):Int):=(aXL .u32 32 (by decide) Tq a b ha γ).1
theorem aq3 (a k:Nat) (ha:a<4294967296):bits .and .u32 ((a / 2 ^ k:Nat):Int) 1=if a.testBit k then 1 else 0:=by
 have τ:a / 2 ^ k<4294967296:=aYJ (Nat.div_le_self _ _) ha;have h:=aqI (a / 2 ^ k) 1 τ (by decide);rw [aYK] at h;rw [show (1:Int)=((1:Nat):Int) from rfl,h,Nat.testBit_eq_decide_div_mod_eq];rcases aXS (a / 2 ^ k) with e | e<;>simp [e]
theorem aBl {a b:Nat} (ha:a<4294967296) (γ:b<4294967296):a ||| b<4294967296:=Nat.or_lt_two_pow (n:=32) ha γ
theorem M9 {k:Nat} (au:k<32):2 ^ k<4294967296:=Nat.pow_lt_pow_right (a:=2) (by decide) au
end Go.Proofs.YtmeeljmapailnaaGreat.b5
namespace Go.Proofs.YtmeeljmapailnaaGreat
open Tryz
end Go.Proofs.YtmeeljmapailnaaGreat
namespace Go.Proofs.YtmeeljmapailnaaGreat.b5
open Tryz
open Go.RowKit Go.Proofs.YtmeeljmapailnaaGreat Go.Proofs.YtmeeljmapailnaaGreat.ey
def Gc (m x k:Nat):Bool:=diff x m == 0 && !x.testBit k && (x == 0 || m.testBit k)
def M8 (m:Nat):List Nat→Nat→Bool
 | [],_=>true
 | x::xs,k=>Gc m x k && M8 m xs (k+1)
def check (m:Nat) (l:List Nat):Int :=
 if m=0∨65536≤m then 1 else if M8 m l 0=false then 4 else if 0≤zT ((size m:Int) / 2+1) l 0 then 4 else 0
end Go.Proofs.YtmeeljmapailnaaGreat.b5
namespace Go.Proofs.YtmeeljmapailnaaGreat
open Tryz
end Go.Proofs.YtmeeljmapailnaaGreat
namespace Go.Proofs.YtmeeljmapailnaaGreat.b5
open Tryz
open Go.RowKit Go.Proofs.YtmeeljmapailnaaGreat Go.Proofs.YtmeeljmapailnaaGreat.ey

def F9 (m:Nat) (k:Int):Bool:=decide (0≤k) && (decide (k<16) && m.testBit k.toNat)
def DW (k x:Nat):Nat:=diff x (2 ^ k)
def aL4 (l:List Nat):List Value:=l.map fun x:Nat=>Value.int .u32 (x:Int)
def part (k:Nat) (l:List Nat) (i:Nat):List Nat:=(l.take i).map (DW k)++l.drop i
theorem Zl (k:Nat) (l:List Nat) (i:Nat):(part k l i).length=l.length:=by unfold part;simp;omega
theorem aC3 (k:Nat) (l:List Nat) (i:Nat) (h:i<l.length):(part k l i)[i]? =some l[i]:=by
 unfold part;have e:((l.take i).map (DW k)).length=i:=by rw [aUz,aTD];omega
 rw [aTU (by rw [e];exact aTK _),e,aXs,aUy,Nat.add_zero,aTF h]
theorem Zm (k:Nat) (l:List Nat) (i:Nat) (h:i<l.length):(part k l i).set i (DW k l[i])=part k l (i+1):=by
 unfold part;have e:((l.take i).map (DW k)).length=i:=by rw [aUz,aTD];omega
 rw [aVs _ _ (by rw [e];exact aTK _),e,aXs,aT5 h,aT8,aU2 h,aVJ,aTX];rfl
def uk (l:List Nat) (k:Nat):List Nat:=part k (l.set k 0) 16

end Go.Proofs.YtmeeljmapailnaaGreat.b5
namespace Go.Proofs.YtmeeljmapailnaaGreat
open Tryz
end Go.Proofs.YtmeeljmapailnaaGreat
namespace Go.Proofs.YtmeeljmapailnaaGreat.b5
open Tryz
open Go.RowKit Go.Proofs.YtmeeljmapailnaaGreat Go.Proofs.YtmeeljmapailnaaGreat.ey

def jN (m:Nat) (l:List Nat):Int:=zT ((size m:Int) / 2+1) l 0
def x':Nat→Nat→List Nat→Nat×List Nat
 | 0,m,l=>(m,l)
 | f+1,m,l=>if 0≤jN m l then x' f (diff m (2 ^ (jN m l).toNat)) (uk l (jN m l).toNat) else (m,l)
def qW (l:List Nat):Nat:=(l.filter (· != 0)).length
theorem aCs (l:List Nat):qW l≤l.length:=aVS _ _
theorem akw (t:Int):∀ (l:List Nat) (i:Nat),0≤zT t l i→∃ j,∃ h:j<l.length,zT t l i=((i+j:Nat):Int)∧t≤(size l[j]:Int)
 | [],i,h=>by simp [zT] at h
 | x::xs,i,h=>by
  unfold zT at h ⊢;by_cases hx:t≤(size x:Int)
  ·rw [aTO hx];exact ⟨0,by simp,by simp,hx⟩
  ·rw [aTL hx] at h ⊢;obtain ⟨j,aA,τ,ae⟩:=akw t xs (i+1) h;exact ⟨j+1,by simp;exact aA,by rw [τ];congr 1;omega,ae⟩
theorem am3 {m:Nat} {l:List Nat} (h:0≤jN m l):∃ k:Nat,jN m l=(k:Int)∧∃ au:k<l.length,(size m:Int) / 2+1≤(size l[k]:Int):=by
 obtain ⟨j,aA,τ,ae⟩:=akw _ l 0 h;exact ⟨j,by unfold jN;rw [τ];simp,aA,ae⟩
theorem aFn:size 0=0:=by decide
theorem YI (l:List Nat) (k:Nat) (h:l.length=16):(uk l k).length=16:=by unfold uk;rw [Zl,aTH];exact h
theorem aAX (l:List Nat) (k:Nat) (h:l.length=16):uk l k=(l.set k 0).map (DW k):=by
 unfold uk part;have ae:(l.set k 0).length=16:=by rw [aTH];exact h
 rw [aT0 (by omega),aVM (by omega),aT6]
theorem aCS (k:Nat):DW k 0=0:=by
 unfold DW diff;simp
theorem akf (f:Nat→Nat) (aK:f 0=0):∀ l:List Nat,qW (l.map f)≤qW l
 | []=>aTK _
 | x::xs=>by
  have bK:=akf f aK xs;unfold qW at *
  rw [aUs,aUP,aUP];by_cases hx:x=0
  ·subst hx;rw [aK];simpa using bK
  ·rw [aTO (show (x != 0)=true by simp [hx])];split
   ·rw [aTI,aTI];exact Nat.succ_le_succ bK
   ·rw [aTI];exact aYS bK
theorem akg:∀ (l:List Nat) (k:Nat) (au:k<l.length),l[k]≠0→qW (l.set k 0)+1=qW l
 | x::xs,0,_,h=>by
  unfold qW;simp at h;simp [h]
 | x::xs,k+1,au,h=>by
  have bK:=akg xs k (by simpa using au) (by simpa using h);unfold qW at *
  simp only [aVK,aUP];split
  ·simp;omega
  ·exact bK
theorem aAZ {m:Nat} {l:List Nat} (aC:l.length=16) {k:Nat} (au:k<l.length) (h:(size m:Int) / 2+1≤(size l[k]:Int)):qW (uk l k)<qW l:=by
 have aK:l[k]≠0:=by
  intro aK;rw [aK,aFn] at h;omega
 have τ:=akg l k au aK;rw [aAX l k aC];have ae:=akf (DW k) (aCS k) (l.set k 0);omega
end Go.Proofs.YtmeeljmapailnaaGreat.b5
namespace Go.Proofs.YtmeeljmapailnaaGreat
open Tryz
end Go.Proofs.YtmeeljmapailnaaGreat
namespace Go.Proofs.YtmeeljmapailnaaGreat.b5
open Tryz
open Go.RowKit Go.Proofs.YtmeeljmapailnaaGreat Go.Proofs.YtmeeljmapailnaaGreat.ey
def Part (a b:Nat):Prop:=∀ i,a.testBit i=true→b.testBit i=true
structure aox (m:Nat) (l:List Nat):Prop where
 FZ:m<65536
 len:l.length=16
 lt:∀ k,l.getD k 0<4294967296
 sub:∀ k,Part (l.getD k 0) m
 self:∀ k,(l.getD k 0).testBit k=false
 mem:∀ k,l.getD k 0≠0→m.testBit k=true
theorem akp (m:Nat):∀ (l:List Nat) (k:Nat),M8 m l k=true↔∀ j,j<l.length→Gc m (l.getD j 0) (k+j)=true
 | [],k=>by simp [M8]
 | x::xs,k=>by
  rw [M8,aTM,akp m xs (k+1)];constructor
  ·rintro ⟨τ,ae⟩ j aA
   match j with
   | 0=>exact τ
   | j+1 =>
    have:=ae j (by simpa using aA);rw [show k+(j+1)=k+1+j from by omega];exact this
  ·intro h;refine ⟨h 0 (by simp),fun j aA=> ?_⟩;have:=h (j+1) (by simpa using aA);rw [show k+(j+1)=k+1+j from by omega] at this;exact this
structure aKE (m:Nat) (l:List Nat) (r:Nat×List Nat):Prop where
 ks:aox r.1 r.2
 some_:r.1≠0
 jN:jN r.1 r.2<0
 sub:Part r.1 m
 aSe:∀ j,Part (r.2.getD j 0) (l.getD j 0)
 gone:∀ j,m.testBit j=true→r.1.testBit j=false→size r.1<2 * size (l.getD j 0)
end Go.Proofs.YtmeeljmapailnaaGreat.b5
namespace Go.Proofs.YtmeeljmapailnaaGreat
open Tryz
end Go.Proofs.YtmeeljmapailnaaGreat
namespace Go.Proofs.YtmeeljmapailnaaGreat.kI
open Tryz
open Go.Proofs.YtmeeljmapailnaaGreat.ey

def aLH (j:Nat):UInt8:=1 <<<UInt8.ofNat j
def ajM (b:BitVec 32):Nat→BitVec 32
 | 0=>0#32
 | k+1=>ajM b k ^^^ (if b.getLsbD k then 1#32 <<<k else 0#32)
end Go.Proofs.YtmeeljmapailnaaGreat.kI
namespace Go.Proofs.YtmeeljmapailnaaGreat
open Tryz
end Go.Proofs.YtmeeljmapailnaaGreat
namespace Go.Proofs.YtmeeljmapailnaaGreat.kI
open Tryz
open Go.RowKit Go.Proofs.YtmeeljmapailnaaGreat.ey

def cells (l:List UInt8):List Value:=l.map fun b=>Value.int .u8 (b.toNat:Int)
structure Inv (T:ByteArray) (b:BitVec 32) (p N k:Nat) (t:List UInt8):Prop where
 len:t.length=N
 low:∀ j,j<k→b.getLsbD j=true→p+j<8 * N
 sum:fold (~~~0#32) t=fold (~~~0#32) T.data.toList ^^^ steps (8 * N - p) (ajM b k)
end Go.Proofs.YtmeeljmapailnaaGreat.kI
namespace Go.Proofs.YtmeeljmapailnaaGreat
open Tryz
section
def T3 (aE:Nat) (w:World) (A:Option Addr) (c:Nat) (t:List UInt8):Prop :=
 ∃ (g:Nat) (R:List UInt8) (L:Nat),A=some ⟨g,0,none⟩∧aE≤g∧aR w g (kI.cells (t++R)) 5 (L,L+1)∧t.length≤L∧t.length≤c∧c≤9223372036854775807∧t.length≤140737488355328
section
variable {aE:Nat} {w w':World} {A:Option Addr} {c:Nat} {t:List UInt8} {S:List Nat}
theorem T3.later (h:T3 aE w A c t) (x:Ext w w'):T3 aE w' A c t:=by
 obtain ⟨g,R,L,rfl,bG,bj,hr⟩:=h;exact ⟨g,R,L,Z,bG,bj.later x,hr⟩
end
section
variable {P:Program} {n:Nat} {E cO:List (Nat×Value)} {a:Act} {w w' w0 aS:World} {Q:Exit→Act→World→Prop} {ops:Array Oper} {v:Value}
variable {d:Option Nat} {ty:TypeId} {pos:String} {af:Array Edge} {g:Option (Nat×Bool)} {x y z:Operand} {t u:TypeId} {rest:List Oper} {i j:Int} {k k':IntKind}
theorem arl {m:Nat} (hx:ev E x=some (.int k i)) (aF:ev E y=some (.int k' (m:Int))) (hm:m≤k.bits) (aK:0≤i):cQ P E ⟨d, .binOp .shr t x y u,ty,pos,af,g⟩ w (.int k (i / 2 ^ m)) w:=oq hx aF (by rfl:binOp .shr t (.int k i) (.int k' (m:Int))=Op.shift .shr k i k' (m:Int)) (by
 unfold Op.shift;rw [aTL (by omega)];show (pure (Value.int k (i.fdiv (2 ^ min (m:Int).toNat k.bits))):Sem Value).run _ _=_;rw [aUx,aUJ hm,aXY _ (by exact aYn (Int.pow_pos (by decide)))];rfl)
theorem ark {m:Nat} (hx:ev E x=some (.int k 1)) (aF:ev E y=some (.int k' j)) (aA:j=(m:Int)) (hm:m≤k.bits):cQ P E ⟨d, .binOp .shl t x y u,ty,pos,af,g⟩ w (.int k (k.wrap (2 ^ m))) w:=oq hx aF (by rfl:binOp .shl t (.int k 1) (.int k' j)=Op.shift .shl k 1 k' j) (by
 subst aA;unfold Op.shift;rw [aTL (by omega)];show (pure (Value.int k (k.wrap (1 * 2 ^ min (m:Int).toNat k.bits))):Sem Value).run _ _=_;rw [aUx,aUJ hm,Int.one_mul];rfl)
theorem aqW (hx:ev E x=some (.int k i)) (aF:ev E y=some (.int k j)):cQ P E ⟨d, .binOp .and t x y u,ty,pos,af,g⟩ w (.int k (bits .and k i j)) w:=oq hx aF (binOp_and t k i j) rfl
end
end
section
open Go.Proofs.YtmeeljmapailnaaGreat.ey
abbrev dW:=Nat
def dW.rep:aa dW:=aa.flat 1 (λ n:Nat=> [.int .u32 (n:Int)]) (λ n=>n<4294967296) (λ _ u=>∃ n:Int,u= .int .u32 n) (λ _=>rfl) (by intro a u hu;simp at hu;subst hu;rfl) (by
 intro a j u hu;cases j with
 | zero=>simp at hu;exact ⟨_,hu.symm⟩
 | succ j=>simp at hu)
theorem zB {w:World} {cs:List Value} {a:dW} (h:dW.rep.has w cs a):cs= [.int .u32 (a:Int)]:=aVP (show cs= [.int .u32 (a:Int)]∧a<4294967296 from h)
theorem dW.ix:∀ (j:Nat) u,(Value.int .u32 0).cells[j]? =some u→dW.rep.raw j u:=by
 intro j u hu;have hu:(#[(.int .u32 0:Value)]:Array Value)[j]? =some u:=hu
 match j,hu with
 | 0,hu=>exact ⟨_,(aTA hu).symm⟩
 | j+1,hu=>simp at hu
abbrev dW.zero:Value:= .int .u32 0
theorem dW.info:(prog.info? 35).map (λ i=>(i.zero,i.size,i.bytes))=some (some (.int .u32 0),1,4):=by kernel_rfl
theorem dW.plain:dW.rep.Plain:=aa.n1
theorem dW.k_ {by_:Nat} {w:World} {A:Option Addr} {c:Nat} {l:List dW} (h:dW.rep.aG by_ w A c l):∀ a∈l,a<4294967296:=aa.aG.y7 (R:=dW.rep) (Q:=λ a=>a<4294967296) (fun {w cs a} (h:dW.rep.has w cs a)=>(show cs= [.int .u32 (a:Int)]∧a<4294967296 from h).2) h
section
open b5
variable {P:Program} {E:List (Nat×Value)} {w:World} {d:Option Nat} {ty:TypeId} {pos:String} {af:Array Edge} {g:Option (Nat×Bool)} {x y:Operand} {t u:TypeId}
def vd (a k:Nat):Int:=if a.testBit k then 1 else 0
theorem D' {a m:Nat} {j:Int} {k':IntKind} (hx:ev E x=some (.int .u32 (a:Int))) (aF:ev E y=some (.int k' j)) (aA:j=(m:Int)) (hm:m≤32):cQ P E ⟨d, .binOp .shr t x y u,ty,pos,af,g⟩ w (.int .u32 ((a / 2 ^ m:Nat):Int)) w:=by
 subst aA;have h:=arl (P:=P) (w:=w) (d:=d) (ty:=ty) (pos:=pos) (af:=af) (g:=g) (t:=t) (u:=u) (m:=m) hx aF hm (aVN a)
 rwa [show (a:Int) / 2 ^ m=((a / 2 ^ m:Nat):Int) by simp] at h
theorem Ju {a m:Nat} (hx:ev E x=some (.int .u32 ((a / 2 ^ m:Nat):Int))) (aF:ev E y=some (.int .u32 1)) (ha:a<4294967296):cQ P E ⟨d, .binOp .and t x y u,ty,pos,af,g⟩ w (.int .u32 (vd a m)) w:=by
 have h:=aqW (P:=P) (w:=w) (d:=d) (ty:=ty) (pos:=pos) (af:=af) (g:=g) (t:=t) (u:=u) hx aF
 rwa [aq3 a m ha] at h
theorem S1 {a b:Nat} (hx:ev E x=some (.int .u32 (a:Int))) (aF:ev E y=some (.int .u32 (b:Int))):cQ P E ⟨d, .binOp .andNot t x y u,ty,pos,af,g⟩ w (.int .u32 ((diff a b:Nat):Int)) w:=oq hx aF (by rfl:binOp .andNot t (.int .u32 (a:Int)) (.int .u32 (b:Int))=pure (.int .u32 (bits .andNot .u32 (a:Int) (b:Int)))) (by rw [as7];rfl)
theorem aHb {a b:Nat} (hx:ev E x=some (.int .u32 (a:Int))) (aF:ev E y=some (.int .u32 (b:Int))) (ha:a<4294967296) (γ:b<4294967296):cQ P E ⟨d, .binOp .or t x y u,ty,pos,af,g⟩ w (.int .u32 ((a ||| b:Nat):Int)) w:=oq hx aF (by rfl:binOp .or t (.int .u32 (a:Int)) (.int .u32 (b:Int))=pure (.int .u32 (bits .or .u32 (a:Int) (b:Int)))) (by rw [aCN a b ha γ];rfl)
theorem S3 {m:Nat} {j:Int} {k':IntKind} (hx:ev E x=some (.int .u32 1)) (aF:ev E y=some (.int k' j)) (aA:j=(m:Int)) (hm:m<32):cQ P E ⟨d, .binOp .shl t x y u,ty,pos,af,g⟩ w (.int .u32 ((2 ^ m:Nat):Int)) w:=by
 have h:=ark (P:=P) (w:=w) (d:=d) (ty:=ty) (pos:=pos) (af:=af) (g:=g) (t:=t) (u:=u) (k:= .u32) hx aF aA (by show m≤32;omega)
 rwa [show (IntKind.u32.wrap ((2:Int) ^ m))=((2 ^ m:Nat):Int) by
  rw [show ((2:Int) ^ m)=((2 ^ m:Nat):Int) by simp,Tq _ (aVN _) (Int.ofNat_lt.2 (M9 hm))]] at h
end
theorem amu (n:Nat) (hn:n<4294967296) (w:World):Calls prog 162 #[.int .u32 (n:Int)] w λ e w'=>e= .returned (J (b5.size n:Int))∧Ext w w' :=
 (b5.asz n hn w).mono λ e w' ⟨h,q,I⟩=>⟨h,by rw [I];exact below_drewN (aUb _ _) q⟩
def DX (t:Int) (x:dW):Bool:=decide (t≤(b5.size x:Int))
theorem akv (t:Int):∀ (l:List Nat) (i:Nat),(fP (DX t) l= -1∧b5.zT t l i= -1)∨∃ k:Nat,fP (DX t) l=(k:Int)∧b5.zT t l i=((i+k:Nat):Int)
 | [],i=> .inl ⟨rfl,rfl⟩
 | x::xs,i=>by
  unfold b5.zT;by_cases hx:t≤(b5.size x:Int)
  ·exact .inr ⟨0,FO (k:=0) (by simp) (by show DX t x=true;exact aT3 hx) (λ j aA=>by omega),by rw [aTO hx];rfl⟩
  ·rw [aTL hx];rcases akv t xs (i+1) with ⟨τ,ae⟩ | ⟨k,τ,ae⟩
   ·refine .inl ⟨FN λ j aA=> ?_,ae⟩
    match j with
    | 0=>exact aT4 hx
    | j+1 =>
     rcases Mj (DX t) xs with ⟨_,aw⟩ | ⟨k,au,aw,_⟩
     ·exact aw _ (aUV _)
     ·omega
   ·refine .inr ⟨k+1, ?_,by rw [ae];congr 1;omega⟩;rcases Mj (DX t) xs with ⟨aw,_⟩ | ⟨k',au,aw,aU,bz⟩
    ·omega
    ·obtain rfl:k'=k:=by omega
     refine FO (by simpa using au) (by simpa using aU) (λ j aA=> ?_)
     match j with
     | 0=>exact aT4 hx
     | j+1=>exact bz j (by omega)
theorem aHH (m:Nat) (l:List Nat):fP (DX ((b5.size m:Int) / 2+1)) l=b5.jN m l:=by
 unfold b5.jN;rcases akv ((b5.size m:Int) / 2+1) l 0 with ⟨τ,ae⟩ | ⟨k,τ,ae⟩
 ·rw [τ,ae]
 ·rw [τ,ae,aUX]
theorem akr (m x k:Nat):((((b5.diff x m:Nat):Int) != 0) || (vd x k == 1) || (((x:Nat):Int) != 0 && (vd m k == 0)))= !b5.Gc m x k:=by
 unfold b5.Gc vd;generalize b5.diff x m=d;have aY:(((d:Nat):Int) != 0)= !(d == 0):=by
  rw [aVO];simp
 have bb:(((x:Nat):Int) != 0)= !(x == 0):=by
  rw [aVO];simp
 rw [aY,bb];cases (d == 0)<;>cases (x == 0)<;>cases x.testBit k<;>cases m.testBit k<;>rfl
def KA (m:Nat) (l:List Nat):Prop:=l.length=16∧b5.check m l=0
theorem S2 {m:Nat} {l:List Nat}:KA m l↔m≠0∧m<65536∧l.length=16∧(∀ j,j<l.length→b5.Gc m (l.getD j 0) j=true)∧b5.jN m l<0:=by
 have τ:=b5.akp m l 0;unfold KA b5.check;constructor
 ·rintro ⟨aC,h⟩;split at h
  ·cases h
  ·split at h
   ·cases h
   ·split at h
    ·cases h
    ·rename_i a b c
     refine ⟨by omega,by omega,aC,λ j aA=> ?_,aYM.1 c⟩;have:=τ.1 (by simpa using b) j aA
     rwa [aUX] at this
 ·rintro ⟨a,b,aC,c,d⟩;refine ⟨aC, ?_⟩;rw [aTL (by omega),aTL (by rw [τ.2 (λ j aA=>by rw [aUX];exact c j aA)];decide)];exact aTL (show ¬ 0≤b5.jN m l by omega)
theorem aG7 {m:Nat} (h:m≠0) (ae:m<65536):(((m:Int)== 0) || (((m / 2 ^ 16:Nat):Int) != 0))=false:=by
 have e:m / 2 ^ 16=0:=aXF ae;rw [e];simp [h]
theorem aG6 {m:Nat} (h:(((m:Int)== 0) || (((m / 2 ^ 16:Nat):Int) != 0))=false):m≠0∧m<65536:=by
 simp only [aUl,aV3,aW9] at h;omega
theorem adu (A:Option Addr) (c:Nat) (l:List dW) (w:World) (h:dW.rep.aG 4 w A c l):
  Calls prog 91 #[.slice A l.length c] w λ e w'=>∃ bL bX,e= .returned (.slice bL l.length bX)∧dW.rep.aH 35 4 w' w.heap.size (aa.aj bL) bL bX l∧(bL=none↔A=none)∧Below w.heap.size w w':=by
 obtain ⟨i0,ar,oa,mf,o1⟩:=aV0 dW.info;have Nh:∀ (w:World) (a:Option Addr) (n c hT bX:Nat),(binOp .eql 36 (.slice a n c) (.slice none hT bX)).run prog w= .ok (.bool a.isNone) w:=λ w a n c hT bX=>aVv w _ _ a n c hT bX underlying36;cases A with
 | none =>
  obtain rfl:c=0:=h.2.2.2.1 rfl;obtain rfl:l= []:=aT7 (by have:=h.1;omega);go_enter func91,ntmps91;go_wp2_with fail
  go_ret;exact ⟨none,0,Z,aa.aH.nil _,by simp,aUb _ _⟩
 | some a =>
  have cN:Below w.heap.size w (w.alloc (.cells #[] 35)):=(aUb _ w).alloc (aTK _) _;obtain ⟨n,eJ⟩:∃ n,Hid (l.length=n):=⟨_,aTG rfl⟩;obtain ⟨τ,ae,aw,aU,ess,bz,cb⟩:=h.keep cN;have uR:=aTG bz;have mS:∀ u∈ess.flatten,u.oneCell'=true:=by
   intro u hu;obtain ⟨y,aF,hu⟩:=aUN.1 hu;obtain ⟨a,ha⟩:=bz.left y aF;exact dW.rep.one ha u hu
  have n':∀ (j:Nat) u,ess.flatten[j]? =some u→dW.rep.raw (j % dW.rep.size) u:=λ j u hu=>Fg bz (by decide) hu;rw [eJ.out] at τ aw cb;have dr:=aTG cb;have i_:=aTG (Own.empty (e:= 35) (size:=dW.rep.size) (G:=dW.rep.raw) w (aTK w.heap.size));clear h aU bz cb;rw [eJ.out];go_enter func91,ntmps91;go_wp2_with (at_builtin;refine GG _ rfl _ _ 36 rfl w.heap.size 35 i0 (Value.int .u32 0) dW.rep.size 4 underlying36 ar oa mf o1 rfl (by decide) dW.rep.raw dW.ix _ _ _ rfl i_.out (some a) n c ess.flatten rfl dr.out mS n' ?qc4 ?qc5 ?qc6 ?_)
  case qc4=>unfold maxLen;omega
  case qc5=>omega
  case qc6=>simp
  intro v' aS eT iU lF fA;have c8:=cN.grown iU (by simp) (by intro k au;simp [Value.ownBlock] at au;omega);obtain ⟨cw,c1,rfl,hle,_,_,_,kv⟩:=eT.shape;have jU:cw≠none:=by
   intro h;subst h;exact lF (kv Z)
  have aX:Hid (dW.rep.aH 35 4 aS w.heap.size (aa.aj cw) cw c1 l):=aTG (aa.aH.zS dW.plain uR.out (by rw [eJ.out];exact aw) (by rw [eJ.out];simpa using eT));have rh:=aTG jU;clear iU lF fA eT jU kv mS n';go_wp2_with fail
  go_ret;exact ⟨cw,c1,Z,aX.out,⟨λ h=>absurd h rh.out,λ h=>by cases h⟩,c8⟩
theorem azZ (dJ:FuncId) (cs:List Value) (p:dW→Bool) (A:Option Addr) (c:Nat) (l:List dW) (w:World) (aC:dW.rep.aG 4 w A c l) (jV:Enters prog dJ) (fr:∀ x∈l,∀ w',Ext w w'→Calls prog dJ (([.int .u32 (x:Int)]:List Value)++cs).toArray w' λ e jM=>e= .returned (.bool (p x))∧Ext w' jM):
  Calls prog 163 #[.slice A l.length c, .func (.func dJ) #[] cs.toArray] w (λ e w'=>e= .returned (J (fP p l))∧Ext w w'):=by
 have rS:=aC.eZ;refine b' (n:=19) func163 Z Z Z ?_;refine ah<|va Z<|ag<|ay<|ah<|vm Z<|Φ (cl underlying36 Z)<|vm Z<|ag<|bu<| ?_;refine dx (λ bZ bS aL=>∃ k:Nat,bS= [(0, .slice A l.length c),(1, .func (.func dJ) #[] cs.toArray),(7,J (l.length:Int)),(8,J (k:Int))]∧bZ=l.length - k∧Ext w aL∧(k≤l.length)∧(∀ i,i<k→p (l.getD i 0)=false)) _ _ ⟨0,Z,Z,(Ext.bg w),by omega,λ i ar=>by omega⟩ (.cons Z (.cons Z (.cons Z (.cons (bH Z) .nil)))) ?_;rintro DL G5 cK ⟨k,rfl,rfl,ba,au,aM⟩;refine ah<|Φ (blt Z Z)<|ag<|ay<| ?_;refine df Z (λ lg=> ?_) (λ lg=> ?_)
 ·refine bl<|ay<|bu<|ah<|vm Z<|va Z<|ag<|ah<|vm Z<|vm Z<|vm Z<|Φ (bT k underlying36 sM Z Z ((aC.keep ba).bs (aO k)) Z (by omega))<|Φ (ao Z (aa.aG.eM zB ((aC.keep ba).cg (aO k)) (cA (l:=l) (u:=0) (by omega)) Z nr))<|C2 jV Z Z Z ((fr (l.getD k 0) (gP (by omega)) _ ba).mono ?_);rintro e GB ⟨rfl,Ce⟩;refine ⟨_,Z, ?_⟩;have lv:=ab ba Ce;refine ag<| ?_;refine dn Z (λ kt=> ?_) (λ kt=> ?_)
  ·refine ah<|vm Z<|va Z<|ag<|rt<|dV<|bP<|kB<|dV<|bP<|aV (.tmp Z .nil)<| ?_;exact ⟨by have e:=Ml (p:=p) (l:=l) (d:=0) (k:=k) (by omega) kt aM;rw [e];rfl,lv⟩
  ·refine ei<|bU<|aP<|rg<|Φ (bad Z Z (bf (by omega)))<|vm Z<|nl<| ?_;exact cD _ _ ⟨k+1,Z,Z,lv,by omega,o4 aM kt⟩ (by omega) (.cons Z (.cons Z (.cons Z (.cons (bH Z) .nil))))
 ·refine cV<|cU<|c'<|cT<|aP<|ah<|va Z<|ag<|rt<|aV (.tmp Z .nil)<| ?_;exact ⟨by have e:=Mk (p:=p) (l:=l) (d:=0) (λ i ar=>aM i (by omega));rw [e];rfl,ba⟩
theorem aHc (r9:Nat) (hx:r9<4294967296) (t:Int) (b:Nat) (w:World) (aZ:aR w b [J t] 3 (0,0)):
  Calls prog 164 #[.int .u32 (r9:Int), .pointer (some ⟨b,0,none⟩)] w (λ e w'=>e= .returned (.bool (DX t r9))∧Ext w w'):=by
 refine b' (n:=8) func164 Z Z Z ?_;refine ah<|va Z<|ag<|ay<| ?_;refine cR [(1,0),(2,0)] [0,1,2,3,4] ?_;refine a1 Z Z<|pO Z Z aeI Z (λ _ x=>amu r9 hx _) Z<|bx Z (λ _ x=>ao Z ((aZ.later x).one a6 Z))<|aB Z (λ _=>j_ Z Z)<|aB Z (λ _=>fG Z)<|fn λ cK fw=> ?_;have ba:=ab (Ext.bg w) fw;refine aP<|rt<|aV (.tmp Z .nil)<| ?_;exact ⟨Z,ba⟩
theorem amx (m:Nat) (hm:m<4294967296) (A:Option Addr) (c:Nat) (l:List Nat) (w:World) (aC:dW.rep.aG 4 w A c l):
  Calls prog 129 #[.agg #[.int .u32 (m:Int), .slice A l.length c]] w (λ e w'=>e= .returned (J (b5.jN m l))∧Ext w w'):=by
 have jL:b5.size m≤32:=b5.KN 32 m;refine b' (n:=13) func129 Z Z Z ?_;refine ah<|ck Z Z Z Z λ cK bR bq dU ai=> ?_;have ba:=ab (Ext.bg w) bq;have ib:=ai.lt;refine va Z<|ag<|ah<|Φ (av sN Z)<|Φ (ao Z (ai.one nr Z))<|ca aeI Z Z ((amu m hm _).mono ?_);rintro e ea ⟨rfl,cZ⟩;refine ⟨_,Z, ?_⟩;have:=cZ.size;have bE:=ab ba cZ;refine Φ (arb Z Z (by omega) (by omega) (aD5 (by omega) (by omega) (by omega)))<|Φ (bad Z Z (bf (by omega)))<|al Z Qg Z Z λ td wW eo IH g_=> ?_;have jA:=ab bE eo;refine st (new:= [J (((b5.size m:Int) / 2)+1)]) Z Z g_ Z dI Z Z Z λ ow o6 g_=> ?_;have fD:=Ext.mod jA o6 bC;refine ag<|ah<|Φ (av sO Z)<| ?_;have ai:=(ai.later (ab cZ eo)).mod o6 aQ;refine Φ (ao Z (ai.one vv Z))<|Φ (M1 Z Z)<|ca auu Z Z ((azZ 164 [.pointer (some ⟨wW,0,none⟩)] (DX (((b5.size m:Int) / 2)+1)) _ _ l _ (aC.keep fD) aut (λ x hx w' h=>aHc x (dW.k_ aC x hx) (((b5.size m:Int) / 2)+1) wW w' (g_.later h))).mono ?_);rintro e nN ⟨rfl,fo⟩;refine ⟨_,Z, ?_⟩;have fp:=ab fD fo;refine va Z<|ag<|rt<|aV (.tmp Z .nil)<| ?_;exact ⟨by rw [aHH];rfl,fp⟩
theorem amt (m:Nat) (hm:m<4294967296) (A:Option Addr) (c:Nat) (l:List Nat) (w:World) (aC:dW.rep.aG 4 w A c l):
  Calls prog 93 #[.agg #[.int .u32 (m:Int), .slice A l.length c]] w (λ e w'=>∃ e':Int,e= .returned (J e')∧(e'=0↔KA m l)∧Ext w w'):=by
 refine b' (n:=54) func93 Z Z Z ?_;refine ah<|ck Z Z Z Z λ cK bR bq dU ai=> ?_;have ba:=ab (Ext.bg w) bq;refine va Z<|ag<|ay<|ah<|Φ (av sN Z)<|Φ (ao Z (ai.one nr Z))<|Φ (beq Z Z)<|vm Z<|bh Z (λ hc=>av sN Z)<|bh Z (λ hc=>ao (gt hc Z) (ai.one nr Z))<|bh Z (λ hc=>D' (m:=16) (gt hc Z) Z Z (by decide))<|bh Z (λ hc=>bne (gt hc Z) Z)<|Φ (fC Z Z Z Z)<|ag<| ?_;refine dn Z (λ oW=> ?_) (λ oW=> ?_)
 ·refine ah<|va Z<|ag<|rt<|bP<|aV (.tmp Z .nil)<| ?_;exact ⟨1,Z,⟨λ bc=>absurd bc (by decide),λ bc=>absurd bc (λ bc=>by obtain ⟨cF,a2,_⟩:=S2.1 bc;rw [aG7 cF a2] at oW;cases oW)⟩,ba⟩
 ·obtain ⟨Is,Q'⟩:=aG6 oW;refine bl<|ay<|ah<|Φ (av sO Z)<|Φ (ao Z (ai.one vv Z))<|Φ (cl underlying36 Z)<|Φ (bne Z Z)<|ag<| ?_;refine ee Z (λ kt=> ?_) (λ kt=> ?_)
  ·refine ah<|va Z<|ag<|rt<|bP<|aV (.tmp Z .nil)<| ?_;exact ⟨4,Z,⟨λ bc=>absurd bc (by decide),λ bc=>absurd bc (λ bc=>by have:=bc.1;omega)⟩,ba⟩
  ·have Iq:l.length=16:=by omega
   refine bl<|ay<|ah<|Φ (av sO Z)<|Φ (ao Z (ai.one vv Z))<|Φ (cl underlying36 Z)<|vm Z<|ag<|bu<| ?_;refine dx (λ bZ bS aL=>∃ k:Nat,bS= [(1, .pointer (some ⟨bR,0,none⟩)),(19, .slice A l.length c),(20,J (l.length:Int)),(21,J (k:Int))]∧bZ=l.length - k∧Ext w aL∧aR aL bR [.int .u32 (m:Int), .slice A l.length c] 38 (0,0)∧(k≤l.length)∧(∀ j,j<k→b5.Gc m (l.getD j 0) j=true)) _ _ ⟨0,Z,Z,ba,ai,by omega,λ i ar=>by omega⟩ (.cons Z (.cons Z (.cons Z (.cons (bH Z) .nil)))) ?_;rintro ajP aJJ NJ ⟨k,rfl,rfl,tB,ai,au,aM⟩;refine ah<|Φ (blt Z Z)<|ag<|ay<| ?_;refine df Z (λ iT=> ?_) (λ iT=> ?_)
   ·refine bl<|ay<|bu<|ah<|vm Z<|Φ (bT k underlying36 sM Z Z ((aC.keep tB).bs (aO k)) Z (by omega))<|Φ (ao Z (aa.aG.eM zB ((aC.keep tB).cg (aO k)) (cA (l:=l) (u:=0) (by omega)) Z nr))<|va Z<|va Z<|ag<|ah<|vm Z<|Φ (av sN Z)<|Φ (ao Z (ai.one nr Z))<|Φ (S1 Z Z)<|Φ (bne Z Z)<|vm Z<|eN Z Z<|eN Z Z<|bh Z (λ hc=>D' (m:=k) (gt hc Z) (gt hc Z) Z (by omega))<| ?_;refine bh Z (λ hc=>Ju (a:=(l.getD k 0)) (gt hc Z) Z (dW.k_ aC _ (gP (by omega))))<|bh Z (λ hc=>beq (gt hc Z) Z)<|Φ (fC Z Z Z Z)<|vm Z<|eN Z Z<|bh Z (λ hc=>bne (gt hc Z) Z)<|ams Z (λ hc=>(gt hc Z))<|sg Z Z Z Z (λ hc=>av sN Z) Z<|sg Z Z Z Z (λ hc=>ao (gt hc Z) (ai.one nr Z)) Z<|sg Z Z Z Z (λ hc=>hy Z) Z<|sg Z Z Z Z (λ hc=>D' (m:=k) (gt hc Z) (gt hc Z) Z (by omega)) Z<|sg Z Z Z Z (λ hc=>Ju (a:=m) (gt hc Z) Z hm) Z<|sg Z Z Z Z (λ hc=>beq (gt hc Z) Z) Z<|bh Z (λ hc=>akx hc (gt hc Z) Z Z)<|Φ (fC Z Z Z Z)<|ag<| ?_;refine dn Z (λ pQ=> ?_) (λ pQ=> ?_)
    ·refine ah<|va Z<|ag<|rt<|dV<|bP<|kB<|dV<|bP<|aV (.tmp Z .nil)<| ?_;exact ⟨4,Z,⟨λ bc=>absurd bc (by decide),λ bc=>absurd bc (λ bc=>by have vB:=(S2.1 bc).2.2.2.1 k (by omega);rw [akr,vB] at pQ;cases pQ)⟩,tB⟩
    ·rw [akr] at pQ;have XS:b5.Gc m (l.getD k 0) k=true:=by simpa using pQ
     refine ei<|bU<|aP<|rg<|Φ (bad Z Z (bf (by omega)))<|vm Z<|nl<| ?_;exact cD _ _ ⟨k+1,Z,Z,tB,ai,by omega,o4 aM XS⟩ (by omega) (.cons Z (.cons Z (.cons Z (.cons (bH Z) .nil))))
   ·refine cV<|cU<|c'<|cT<|aP<|ay<|ah<|Φ (ao Z (ai.all nt jR))<|ca VX Z Z ((amx m hm _ _ l _ (aC.keep tB)).mono ?_);rintro e Gw ⟨rfl,ph⟩;refine ⟨_,Z, ?_⟩;have na:=ab tB ph;refine Φ (j_ Z Z)<|ag<| ?_;refine CZ Z (λ Bn=> ?_) (λ Bn=> ?_)
    ·refine ah<|va Z<|ag<|rt<|bP<|aV (.tmp Z .nil)<| ?_;exact ⟨4,Z,⟨λ bc=>absurd bc (by decide),λ bc=>absurd bc (λ bc=>by have:=(S2.1 bc).2.2.2.2;omega)⟩,na⟩
    ·refine bl<|ah<|va Z<|ag<|rt<|aV (.tmp Z .nil)<| ?_;exact ⟨0,Z,⟨λ _=>S2.2 ⟨Is,Q',Iq,λ j aA=>aM j (by omega),by omega⟩,λ _=>Z⟩,na⟩
end
end Go.Proofs.YtmeeljmapailnaaGreat
