import Derived.Test.YthlpmldmhakhaaaGreatDoorShelf
import Derived.Lib.AppendIntMem
import Derived.Lib.ItoaLen
set_option linter.unusedVariables false
set_option linter.unusedSimpArgs false
set_option maxRecDepth 100000
set_option maxHeartbeats 4000000
open Go.RowKit
namespace Go.Proofs.YthlpmldmhakhaaaGreatDoor
open Tryz
abbrev aN0:=@List.filter_append
abbrev aN3:=@Go.Lib.size_eq
abbrev aOw:=@List.length_filter_le
abbrev aOQ:=@List.take_length
abbrev aO8:=@List.length_take_le
abbrev aPI:=@Classical.byContradiction
abbrev aQn:=@Go.Lib.decDigits_length
abbrev aQy:=@List.foldl_append
section
variable {l:List eN} {k:Nat} {v:Int} {b:eN}
theorem ajW:(prog.info? 4).map (λ i=>(i.zero,i.size,i.bytes))=some (some (.bool false),1,1):=by kernel_rfl
def MI (f:av) (x y:a8):Bool:=if (x.owner == y.owner || decide (Va x.kind<far x.spot y.spot))=true then false else Cm f x.spot y.spot
def dG (l:List a8):List (Int×Int):=(List.range l.length).map λ i=>((l.getD i default).id,(i:Int))
theorem atw {l:List a8} (h:k<l.length):dG (l.take (k+1))=dG (l.take k)++ [((l.getD k default).id,(k:Int))]:=by
 have aR:(l.take (k+1)).length=k+1:=by rw [aM9];omega
 have a1:(l.take k).length=k:=by rw [aM9];omega
 unfold dG;rw [aR,a1,aOb,aNx];congr 1
 ·refine aQj λ i ak=> ?_;have ak:=aND.1 ak;simp only [aM0,aNK];rw [aNd (by omega),aNd ak]
 ·simp only [aNF,aOf,aM0,aNK];rw [aNd (by omega)]
theorem acx {l:List a8} {p:Int×Int} (h:p∈dG l):∃ i,i<l.length∧p=((l.getD i default).id,(i:Int)):=by
 obtain ⟨i,ak,rfl⟩:=aNn.1 h;exact ⟨i,aND.1 ak,Z⟩
theorem aqz {l:List (Int×Int)} {k:Int} (h:cN l k=some v):(k,v)∈l:=by
 unfold cN at h;cases hf:l.find? (λ p=>p.1 == k) with
 | none=>rw [hf] at h;exact nomatch h
 | some p =>
  rw [hf] at h;injection h with h
  have κ:=aPG hf;have τ:=aPY hf;have aq:p.1=k:=by simpa using τ
  rw [← aq,← h];exact κ
theorem aqA {l:List (Int×Int)} {k:Int} (h:∀ p∈l,p.1≠k):cN l k=none:=by
 unfold cN;rw [aOl.2 λ p hp=>by simpa using h p hp];rfl
theorem afz {W:ae} {x:Int} (h:cN (dG W.ah) x=some v):∃ i,i<W.ah.length∧v=(i:Int)∧(W.ah.getD i default).id=x:=by
 obtain ⟨i,ak,he⟩:=acx (aqz h);injection he with κ τ
 exact ⟨i,ak,τ,κ.symm⟩
theorem axH {W:ae} (ar:Good W) (x:Int) (h:(cN (dG W.ah) x).isSome=true):((cN (dG W.ah) x).getD 0).toNat<W.ah.length∧0≤(cN (dG W.ah) x).getD 0:=by
 cases aU:cN (dG W.ah) x with
 | none=>rw [aU] at h;exact nomatch h
 | some v =>
  obtain ⟨i,ak,hv,_⟩:=afz aU;show v.toNat<_∧0≤v;omega
theorem axK (W:ae) (x:Int):0≤(cN (dG W.ah) x).getD 0:=by
 cases aU:cN (dG W.ah) x with
 | none=>exact aOn _
 | some v=>obtain ⟨i,ak,hv,_⟩:=afz aU;show 0≤v;omega
theorem Good.atx {W:ae} (ar:Good W) {i j:Nat} (kY:i<j) (aw:j<W.ah.length):(W.ah.getD i default).id<(W.ah.getD j default).id:=by
 induction j with
 | zero=>omega
 | succ j bu =>
  obtain ⟨t,aD⟩:=jq aw;have κ:=(ar.ids (j+1) t aD).1;have τ:W.jc (j+1)=(W.ah.getD j default).id:=by
   unfold ae.jc;simp
  have aR:W.ah.getD (j+1) default=t:=by rw [aM0,aD];rfl
  rw [aR];rcases aPN.1 kY with h | rfl
  ·have:=bu h (by omega);omega
  ·omega
theorem axJ {W:ae} (ar:Good W) (aj:k<W.ah.length):cN (dG (W.ah.take k)) (W.ah.getD k default).id=none:=by
 refine aqA λ p hp=> ?_;obtain ⟨i,ak,rfl⟩:=acx hp;rw [aM9] at ak;have κ:=ar.atx (i:=i) (j:=k) (by omega) aj;have τ:(W.ah.take k).getD i default=W.ah.getD i default:=by
  simp only [aM0,aNK];rw [aNd (by omega)]
 show ((W.ah.take k).getD i default).id≠_;rw [τ];omega
theorem Good.awD {W:ae} (ar:Good W) (i:Nat): -1000≤(W.ah.getD i default).spot.x∧(W.ah.getD i default).spot.x≤1000∧ -1000≤(W.ah.getD i default).spot.y∧(W.ah.getD i default).spot.y≤1000:=by
 rw [aM0];cases aD:W.ah[i]? with
 | none=>exact ⟨by decide,by decide,by decide,by decide⟩
 | some t =>
  obtain ⟨i1,i2,i3,i4,i5,i6⟩:=av.idx ar.field (av.jr (ar.ah i t aD).ground);obtain ⟨uY,qU,s8,s9,_,_⟩:=av.hg ar.field;show -1000≤t.spot.x∧t.spot.x≤1000∧ -1000≤t.spot.y∧t.spot.y≤1000;omega
def MA (W:ae) (s:List Bool×List Int) (b:eN):Bool :=
 (((!(cN (dG W.ah) b.bf).isSome || !(cN (dG W.ah) b.kb).isSome) || s.1.getD ((cN (dG W.ah) b.bf).getD 0).toNat false) || !MI W.field (W.ah.getD ((cN (dG W.ah) b.bf).getD 0).toNat default) (W.ah.getD ((cN (dG W.ah) b.kb).getD 0).toNat default))
def zL (W:ae) (s:List Bool×List Int) (b:eN):List Bool×List Int :=
 if MA W s b=true then s
 else (s.1.set ((cN (dG W.ah) b.bf).getD 0).toNat true,s.2.set ((cN (dG W.ah) b.kb).getD 0).toNat (s.2.getD ((cN (dG W.ah) b.kb).getD 0).toNat 0+yz (W.ah.getD ((cN (dG W.ah) b.bf).getD 0).toNat default).kind))
theorem YG {W:ae} {s:List Bool×List Int} (h:MA W s b=false):zL W s b=(s.1.set ((cN (dG W.ah) b.bf).getD 0).toNat true,s.2.set ((cN (dG W.ah) b.kb).getD 0).toNat (s.2.getD ((cN (dG W.ah) b.kb).getD 0).toNat 0+yz (W.ah.getD ((cN (dG W.ah) b.bf).getD 0).toNat default).kind)):=by
 unfold zL;rw [h];rfl
theorem YE {W:ae} {s:List Bool×List Int} (h:MA W s b=true):zL W s b=s:=by unfold zL;rw [h];rfl
def j3 (W:ae) (l:List eN):List Bool×List Int:=l.foldl (zL W) (List.replicate W.ah.length false,List.replicate W.ah.length 0)
theorem alG (W:ae) (l:List eN) (b:eN):j3 W (l++ [b])=zL W (j3 W l) b:=by unfold j3;rw [aQy];rfl
theorem YH (W:ae) (h:k<l.length):j3 W (l.take (k+1))=zL W (j3 W (l.take k)) (l.getD k default):=by
 rw [aNs h,alG,aM0,aM3 h];rfl
theorem abn (k:Int):0≤yz k∧yz k≤4:=by unfold yz;split<;>(try split)<;>omega
def HJ (n m:Nat) (s:List Bool×List Int):Prop:=s.1.length=n∧s.2.length=n∧∀ j,0≤s.2.getD j 0∧s.2.getD j 0≤4 * m
theorem alD (W:ae) {n m:Nat} {s:List Bool×List Int} (b:eN) (h:HJ n m s):HJ n (m+1) (zL W s b):=by
 obtain ⟨κ,τ,aq⟩:=h;cases af:MA W s b with
 | true=>rw [YE af];exact ⟨κ,τ,λ j=>by have:=aq j;omega⟩
 | false =>
  rw [YG af];refine ⟨by rw [aNj];exact κ,by rw [aNj];exact τ,λ j=> ?_⟩;have aw:=aq j;have hx:=abn (W.ah.getD ((cN (dG W.ah) b.bf).getD 0).toNat default).kind;have hm:=aq ((cN (dG W.ah) b.kb).getD 0).toNat;show 0≤(s.2.set _ _).getD j 0∧(s.2.set _ _).getD j 0≤_;generalize ((cN (dG W.ah) b.kb).getD 0).toNat=i at *
  generalize yz _=q at *
  rw [aM0] at aw;rw [aM0,aRE];split
  ·split
   ·rw [aN2];omega
   ·rw [Option.getD_none];omega
  ·omega
theorem YD (W:ae) {n:Nat}:∀ (l:List eN) {m:Nat} {s:List Bool×List Int},HJ n m s→HJ n (m+l.length) (l.foldl (zL W) s)
 | [],m,s,h=>h
 | b::l,m,s,h=>by
  have:=YD W l (alD W b h);rw [aPq,aPy 1] at this;exact this
theorem Rk (W:ae) (l:List eN):(j3 W l).1.length=W.ah.length∧(j3 W l).2.length=W.ah.length∧∀ j,0≤(j3 W l).2.getD j 0∧(j3 W l).2.getD j 0≤4 * l.length:=by
 have aC:HJ W.ah.length 0 (List.replicate W.ah.length false,List.replicate W.ah.length 0):=by
  refine ⟨aNz,aNz,λ j=> ?_⟩;have:(List.replicate W.ah.length (0:Int)).getD j 0=0:=by
   rw [aM0,aOz];split<;>rfl
  show 0≤(List.replicate W.ah.length (0:Int)).getD j 0∧(List.replicate W.ah.length (0:Int)).getD j 0≤_;rw [this];decide
 obtain ⟨κ,τ,aq⟩:=YD W l aC;refine ⟨κ,τ,λ j=> ?_⟩;have:=aq j;rw [aN5] at this;exact this
def lL (W:ae) (l:List eN):Int:=if W.a7≠0 then W.a7 else if 200<l.length then 2 else 0
def fK (W:ae) (l:List eN):List Int:=if lL W l≠0 then [] else (j3 W l).2
theorem YF {W:ae} {w aN:World} (h:lL W l=v) (hv:v≠0) (x:Ext w aN):∃ A c,(Ending.returned (.tuple #[.slice none 0 0,γ v])= .returned (.tuple #[.slice A (fK W l).length c,γ (lL W l)]))∧bz.aM 3 8 aN w.heap.size (Φ.ab A) A c (fK W l)∧Ext w aN:=by
 have e:fK W l= []:=by unfold fK;rw [h,aNd hv]
 rw [e,h];exact ⟨none,0,Z,Φ.aM.nil _,x⟩
theorem alE {W:ae} (h:W.a7=0) (τ:¬ (200:Int)<l.length):lL W l=0∧fK W l=(j3 W l).2:=by
 have e:lL W l=0:=by unfold lL;rw [aM4 (by simpa using h),aM4 (by omega)]
 exact ⟨e,by unfold fK;rw [e];rfl⟩
theorem anh (a:ae.cW) (W:ae) (x y:a8) (w:World) (b8:ae.Has w a W) (h: -1000≤x.spot.x∧x.spot.x≤1000∧ -1000≤x.spot.y∧x.spot.y≤1000) (τ: -1000≤y.spot.x∧y.spot.x≤1000∧ -1000≤y.spot.y∧y.spot.y≤1000):
  Calls prog 140 #[.agg ((ae.cells a W).toArray), .agg #[γ x.id,γ x.owner,γ x.kind,γ x.spot.x,γ x.spot.y,γ x.df,γ x.load], .agg #[γ y.id,γ y.owner,γ y.kind,γ y.spot.x,γ y.spot.y,γ y.df,γ y.load]] w (λ e w'=>e= .returned (.bool (MI W.field x y))∧Ext w w'):=by
 refine cx (n:=51) func140 Z Z Z ?_;refine fa Z Z λ dk bx bm fQ ag=> ?_;have jd:=ag.lt;refine jn Z Z λ fT dJ bD j' aG=> ?_;have b7:=J bm bD;have qG:=aG.lt;refine jn Z Z λ hX iW b4 rD bJ=> ?_;have cY:=J b7 b4;have yV:=bJ.lt;refine aT Z<|aF<|aa (au Nf Z)<| ?_;have aG:=aG.later b4;refine bA Z aG a6 Z<|c0 Ng Z (Oq (x.kind) _) λ qO eC=> ?_;have:=eC.size;have gU:=J cY eC;refine vm Z<|b0 Z Z<|b0 Z Z<|dn Nh Z λ y5 Mw jf aum xO=> ?_;have lA:=J gU jf;refine c9 Z Z xO Z Ni Z Z λ AR Kf xO=> ?_;have mK:=Ext.mod lA Kf bF;refine aT Z<|aF<|aa (au ri Z)<| ?_;have aG:=(aG.later (J eC jf)).mod Kf aY;refine aa (aB Z (aG.par [γ x.spot.x,γ x.spot.y] b2 bs Z))<|aa (au ri Z)<| ?_;have bJ:=(bJ.later (J eC jf)).mod Kf aY;refine aa (aB Z (bJ.par [γ y.spot.x,γ y.spot.y] b2 bs Z))<|c0 aag Z (Yb x.spot y.spot _ (by omega) (by omega)) λ Cu iv=> ?_;have l6:=J mK iv;refine vm Z<|b0 Z Z<|b0 Z Z<|b0 Z Z<|va Z<|va Z<|aT Z<|aI<|aF<|aa (au BE Z)<| ?_;have aG:=aG.later iv;refine bA Z aG a6 Z<|aa (au BE Z)<| ?_;have bJ:=bJ.later iv;refine bA Z bJ a6 Z<|aa (beq Z Z)<|vm Z<|fS Z Z<|b9 Z (λ hc=>au apm Z)<| ?_;have xO:=xO.later iv;refine b9 Z (λ hc=>aB (gt hc Z) (xO.one a6 Z))<|b9 Z (λ hc=>hO (gt hc Z) (gt hc Z))<|aa (gv Z Z Z Z)<|aJ<| ?_;refine c1 Z (λ Jm=> ?_) (λ Jm=> ?_)
 ·refine aF<|bH Z<|cU<|cZ Z Z<| ?_;exact ⟨by unfold MI;rw [Jm];rfl,l6⟩
 ·refine bE<|aF<|aa (au p7 Z)<| ?_;have ag:=((ag.later (J bD (J b4 (J eC jf)))).mod Kf aY).later iv;refine aa (aB Z (ag.par [γ W.field.wide,γ W.field.high, .slice a.P W.field.places.length a.p] hb gD Z))<|aa (au ri Z)<|aa (aB Z (aG.par [γ x.spot.x,γ x.spot.y] b2 bs Z))<|aa (au ri Z)<|aa (aB Z (bJ.par [γ y.spot.x,γ y.spot.y] b2 bs Z))<|c0 apn Z (azl W.field x.spot y.spot _ _ _ (b8.P.keep l6)) λ ahp s7=> ?_;have Lo:=J l6 s7;refine vm Z<|b0 Z Z<|b0 Z Z<|va Z<|aT Z<|aK Z<|bH Z<|cZ Z Z<| ?_;exact ⟨by unfold MI;rw [Jm];rfl,Lo⟩
theorem alF (a:ae.cW) (W:ae) (l:List eN) (A:Option Addr) (c:Nat) (w:World) (b8:ae.Has w a W) (ay:eN.rep.aQ 16 w A c l):
  Calls prog 116 #[.agg ((ae.cells a W).toArray), .slice A l.length c] w (λ e w'=>∃ A c,e= .returned (.tuple #[.slice A (fK W l).length c,γ (lL W l)])∧bz.aM 3 8 w' w.heap.size (Φ.ab A) A c (fK W l)∧Ext w w'):=by
 refine cx (n:=120) func116 Z Z Z ?_;refine fa Z Z λ dk bx bm fQ ag=> ?_;have jd:=ag.lt;refine va Z<|aT Z<|aI<|aF<|aa (aB Z (ag.all fg cQ))<|c0 FP Z (Fu a W _ (b8.keep bm)) λ fT ea=> ?_;have:=ea.size;have b7:=J bm ea;refine aT Z<|aK Z<|gN Z Z<|aJ<| ?_;refine oq Z (λ hH=> ?_) (λ hH=> ?_)
 ·refine aK Z<|va Z<|bH Z<|cU<|ht Z Z Z<| ?_;exact YF (by unfold lL;rw [aNd hH]) hH b7
 ·have ar:=Good.um hH;have BZ:=ar.dD;have ab8:=λ i=>ar.awD i;have eb:=λ x=>axH ar x;have B0:=λ x=>axK W x;have Gp:=ay.kr;refine bE<|aI<|aK Z<|aa (dr underlying143 Z)<|aa (hO Z Z)<|aJ<| ?_;refine fH Z (λ hT=> ?_) (λ hT=> ?_)
  ·refine aF<|va Z<|bH Z<|cU<|ht Z Z Z<| ?_;exact YF (by unfold lL;rw [aM4 (by simpa using hH),aNd (by omega)]) (by decide) b7
  ·refine bE<|aF<|UI Z λ He G2 ir aui aj2=> ?_;have r3:=J b7 ir;refine aT Z<|aI<|aF<|aa (au kk Z)<| ?_;have ag:=ag.later (J ea ir);refine bA Z ag mh Z<|aa (dr underlying50 Z)<|vm Z<|aJ<|bT<| ?_;refine gi (λ cJ cu aV=>∃ k:Nat,cu= [(1, .slice A l.length c),(2, .pointer (a_ bx)),(4, .slice none 0 0),(5,γ 0),(7, .map (some G2)),(30, .slice a.T W.ah.length a.t),(31,γ (W.ah.length:Int)),(32,γ (k:Int))]∧cJ=W.ah.length - k∧Ext w aV∧aO aV bx (ae.cells a W) 52 (0,0)∧oh aV G2 (dG (W.ah.take k))∧(k≤W.ah.length)) _ _ ⟨0,Z,Z,r3,ag,aj2,by omega⟩ (eS Z Z Z) ?_;rintro OL aDE ahn ⟨k,rfl,rfl,zd,ag,iL,aj⟩;have:=zd.size;have aKq:=ag.lt;have aKr:=iL.lt;refine aF<|fB Z Z<|aJ<|aI<| ?_;refine fH Z (λ wa=> ?_) (λ wa=> ?_)
   ·have axq:=B0 (l.getD k default).bf;have axr:=B0 (l.getD k default).kb;refine bE<|aI<|bT<|aK Z<|aa (bX k underlying50 kl Z Z ((b8.T.keep zd).bw (aZ k (by omega))) Z (by omega))<|aa (aB Z (Φ.aQ.jJ js ((b8.T.keep zd).cg (aZ k (by omega))) (cj (l:=W.ah) (u:=default) (by omega)) zZ kl))<|dn FQ Z λ EB aEE jD aIh Ql=> ?_;have l5:=J zd jD;refine va Z<|c9 Z Z Ql Z kl Z Z λ Ct iP Ql=> ?_;have oa:=Ext.mod l5 iP bF;refine aJ<|rg<|vm Z<|aa (au FR Z)<|bA Z Ql a6 Z<|vm Z<| ?_;have iL:=(iL.later jD).mod iP aY;refine mu underlying180 underlying3 iL (axJ ar (by omega)) Z Z Z λ Hh wV iL=> ?_;have EX:=Ext.mod oa wV bF;refine nl<|cl<|br<|rg<|aa (bad Z Z (ll (by omega)))<|vm Z<|nl<| ?_;have ag:=((ag.later jD).mod iP aY).mod wV aY;exact eX ⟨k+1,Z,Z,EX,ag,(by rw [atw (by omega)];exact iL),by omega⟩
   ·refine ej<|ei<|eU<|eh<|br<|aF<|aa (au kk Z)<|bA Z ag mh Z<|aa (dr underlying50 Z)<|D4 (R:=bz) (by_:=8) (B:=w.heap.size) (c:=W.ah.length) (zv:=(γ 0)) (q:=0) Φ.rm underlying46 wG Z Z (λ j u h=>AE j u h) (λ _=>⟨Z,cI.2 (by decide)⟩) Z Z Z (by omega) (by omega) (by omega) λ V4 zI fD aec L9=> ?_;have:=fD.size;have CH:=J zd fD;have KW:=bZ L9.lt;have aeE:∀ q∈Φ.ab (a_ zI),zI≤q:=λ q I=>aOT (aMZ.1 I).symm;refine aT Z<|aF<|aa (au kk Z)<| ?_;have ag:=ag.later fD;refine bA Z ag mh Z<|aa (dr underlying50 Z)<|D4 (R:=n1) (by_:=1) (B:=w.heap.size) (c:=W.ah.length) (zv:=(.bool false)) (q:=false) Φ.rm underlying112 ajW Z Z (λ j u h=>U_ j u h) (λ _=>⟨Z,trivial⟩) Z Z Z (by omega) (by omega) (by omega) λ EE vN iy aee Ff=> ?_;have tj:=J CH iy;have yK:∀ q∈Φ.ab (a_ vN),vN≤q:=λ q I=>aOT (aMZ.1 I).symm;refine aT Z<|aI<|aK Z<|aa (dr underlying143 Z)<|vm Z<|aJ<|bT<| ?_;have iL:=iL.later (J fD iy);have L9:=L9.later iy;have ag:=ag.later iy;refine gi (λ cJ cu aV=>∃ k:Nat,cu= [(2, .pointer (a_ bx)),(4, .slice none 0 0),(5,γ 0),(7, .map (some G2)),(10, .slice (a_ zI) W.ah.length W.ah.length),(11, .slice (a_ vN) W.ah.length W.ah.length),(50, .slice A l.length c),(51,γ (l.length:Int)),(52,γ (k:Int))]∧cJ=l.length - k∧Ext w aV∧aO aV bx (ae.cells a W) 52 (0,0)∧oh aV G2 (dG W.ah)∧bz.aM 3 8 aV w.heap.size (Φ.ab (a_ zI)) (a_ zI) W.ah.length ((j3 W (l.take k)).2)∧n1.aM 4 1 aV w.heap.size (Φ.ab (a_ vN)) (a_ vN) W.ah.length ((j3 W (l.take k)).1)∧(k≤l.length)∧(∀ q∈Φ.ab (a_ zI),q=bx→False)∧(∀ q∈Φ.ab (a_ zI),q=G2→False)∧(∀ q∈Φ.ab (a_ vN),q=bx→False)∧(∀ q∈Φ.ab (a_ vN),q=G2→False)∧(∀ q∈Φ.ab (a_ vN),q∈Φ.ab (a_ zI)→False)) _ _ ⟨0,Z,Z,tj,ag,(by have e:k=W.ah.length:=(by omega);rw [e,aOQ] at iL;exact iL),L9,Ff,by omega,(λ q I af=>by (have:=aeE q I;omega)),(λ q I af=>by (have:=aeE q I;omega)),(λ q I af=>by (have:=yK q I;omega)),(λ q I af=>by (have:=yK q I;omega)),(λ q I af=>by (have:=yK q I;(have:=KW q af;omega)))⟩ (eS Z Z Z) ?_;rintro lS aDS PH ⟨k,rfl,rfl,tk,ag,iL,se,p1,aj,sy,mP,mQ,By,sz⟩;have ayg:=ag.lt;have afR:=iL.lt;have VP:=bZ se.lt;have VQ:=bZ p1.lt;obtain ⟨dO,bq,er⟩:=Rk W (l.take k);have dZ:(l.take k).length≤k:=aO8 k l;refine aF<|fB Z Z<|aJ<|aI<| ?_;refine fH Z (λ ard=> ?_) (λ ard=> ?_)
    ·have axq:=B0 (l.getD k default).bf;have axr:=B0 (l.getD k default).kb;refine bE<|aI<|bT<|aF<|aa (bX k underlying143 R2 Z Z ((ay.keep tk).bw (aZ k (by omega))) Z (by omega))<|aa (aB Z (Φ.aQ.jJ arB ((ay.keep tk).cg (aZ k (by omega))) (cj (l:=l) (u:=default) (by omega)) apo R2))<|dn apq Z λ PL Yt kP aef vo=> ?_;have ze:=J tk kP;have afT:=vo.lt;refine c9 Z Z vo Z R2 Z Z λ K8 Eh vo=> ?_;have:=Eh.size;have ny:=Ext.mod ze Eh bF;refine aJ<|aK Z<|aa (au apr Z)<|bA Z vo a6 Z<| ?_;have iL:=(iL.later kP).mod Eh aY;refine aa (lk underlying180 underlying3 R3 iL Z Z)<|vm Z<|b0 Z Z<|b0 Z Z<|va Z<|aT Z<|aK Z<|aa (au aps Z)<|bA Z vo a6 Z<|aa (lk underlying180 underlying3 R3 iL Z Z)<|vm Z<|b0 Z Z<|b0 Z Z<|va Z<|aT Z<|aI<|aI<| ?_;refine dw [(10,0),(13,0),(15,0),(18,0),(20,0),(23,0),(24,0)] [0,1,2,3,4,5,6,7,8,9,10,11,12,13,14,15,16,17,18,19,20,21,22,23,24,25,26] ?_;refine bn Z Z<|ax Z (λ _=>dD Z)<|bn Z Z<|eQ Z Z Z<|bR Z Z (λ hc _=>dD (gt hc Z))<|ax Z (λ _=>gv Z Z Z Z)<|bn Z Z<|eQ Z Z Z<|eQ Z Z Z<| ?_;have p1:=(p1.later kP).mod Eh (bl VQ);refine bR Z Z (λ hc _=>bX (((cN (dG W.ah) ((l.getD k default).bf)).getD 0).toNat) underlying112 Dp (gt hc Z) (gt hc Z) (p1.has.bw (aZ (((cN (dG W.ah) ((l.getD k default).bf)).getD 0).toNat) (by (try rw [dO]);simp only [cq] at hc;first | exact (eb _ hc.1).1 | exact (eb _ hc.2).1 | exact (eb _ hc.1.1).1 | exact (eb _ hc.1.2).1))) (by (try simp only [cq] at hc);omega) (by (try rw [dO]);simp only [cq] at hc;first | exact (eb _ hc.1).1 | exact (eb _ hc.2).1 | exact (eb _ hc.1.1).1 | exact (eb _ hc.1.2).1))<|dE Z Z (λ hc _ x=>aB (gt hc Z) (Φ.aQ.dj Jv ((p1.later x).has.cg (aZ (((cN (dG W.ah) ((l.getD k default).bf)).getD 0).toNat) (by (try rw [dO]);simp only [cq] at hc;first | exact (eb _ hc.1).1 | exact (eb _ hc.2).1 | exact (eb _ hc.1.1).1 | exact (eb _ hc.1.2).1))) (cj (l:=(j3 W (l.take k)).1) (u:=false) (by (try rw [dO]);simp only [cq] at hc;first | exact (eb _ hc.1).1 | exact (eb _ hc.2).1 | exact (eb _ hc.1.1).1 | exact (eb _ hc.1.2).1)) Z R4))<|ax Z (λ _=>gv Z Z Z Z)<|bn Z Z<| ?_;have ag:=(ag.later kP).mod Eh aY;refine dE Z Z (λ hc _ x=>aB Z ((ag.later x).all fg cQ))<|bR Z Z (λ hc _=>au kk Z)<|dE Z Z (λ hc _ x=>aB (gt hc Z) ((ag.later x).one mh Z))<|eQ Z Z Z<|bR Z Z (λ hc _=>bX (((cN (dG W.ah) ((l.getD k default).bf)).getD 0).toNat) underlying50 kl (gt hc Z) (gt hc Z) ((b8.T.keep ny).bw (aZ (((cN (dG W.ah) ((l.getD k default).bf)).getD 0).toNat) (by (try rw [(rfl:W.ah.length=W.ah.length)]);simp only [cq] at hc;first | exact (eb _ hc.1).1 | exact (eb _ hc.2).1 | exact (eb _ hc.1.1).1 | exact (eb _ hc.1.2).1))) (by (try simp only [cq] at hc);omega) (by (try rw [(rfl:W.ah.length=W.ah.length)]);simp only [cq] at hc;first | exact (eb _ hc.1).1 | exact (eb _ hc.2).1 | exact (eb _ hc.1.1).1 | exact (eb _ hc.1.2).1))<|dE Z Z (λ hc _ x=>aB (gt hc Z) (Φ.aQ.jJ js ((b8.T.keep (J ny x)).cg (aZ (((cN (dG W.ah) ((l.getD k default).bf)).getD 0).toNat) (by (try rw [(rfl:W.ah.length=W.ah.length)]);simp only [cq] at hc;first | exact (eb _ hc.1).1 | exact (eb _ hc.2).1 | exact (eb _ hc.1.1).1 | exact (eb _ hc.1.2).1))) (cj (l:=W.ah) (u:=default) (by (try rw [(rfl:W.ah.length=W.ah.length)]);simp only [cq] at hc;first | exact (eb _ hc.1).1 | exact (eb _ hc.2).1 | exact (eb _ hc.1.1).1 | exact (eb _ hc.1.2).1)) zZ kl))<|bR Z Z (λ hc _=>au kk Z)<|dE Z Z (λ hc _ x=>aB (gt hc Z) ((ag.later x).one mh Z))<|eQ Z Z Z<|bR Z Z (λ hc _=>bX (((cN (dG W.ah) ((l.getD k default).kb)).getD 0).toNat) underlying50 kl (gt hc Z) (gt hc Z) ((b8.T.keep ny).bw (aZ (((cN (dG W.ah) ((l.getD k default).kb)).getD 0).toNat) (by (try rw [(rfl:W.ah.length=W.ah.length)]);simp only [cq] at hc;first | exact (eb _ hc.1).1 | exact (eb _ hc.2).1 | exact (eb _ hc.1.1).1 | exact (eb _ hc.1.2).1))) (by (try simp only [cq] at hc);omega) (by (try rw [(rfl:W.ah.length=W.ah.length)]);simp only [cq] at hc;first | exact (eb _ hc.1).1 | exact (eb _ hc.2).1 | exact (eb _ hc.1.1).1 | exact (eb _ hc.1.2).1))<|dE Z Z (λ hc _ x=>aB (gt hc Z) (Φ.aQ.jJ js ((b8.T.keep (J ny x)).cg (aZ (((cN (dG W.ah) ((l.getD k default).kb)).getD 0).toNat) (by (try rw [(rfl:W.ah.length=W.ah.length)]);simp only [cq] at hc;first | exact (eb _ hc.1).1 | exact (eb _ hc.2).1 | exact (eb _ hc.1.1).1 | exact (eb _ hc.1.2).1))) (cj (l:=W.ah) (u:=default) (by (try rw [(rfl:W.ah.length=W.ah.length)]);simp only [cq] at hc;first | exact (eb _ hc.1).1 | exact (eb _ hc.2).1 | exact (eb _ hc.1.1).1 | exact (eb _ hc.1.2).1)) zZ kl))<|km Z Z Z Z Z Z apt (λ hc=>fO (gt hc Z) (fO (gt hc Z) (fO (gt hc Z) Z))) (λ hc _ x=>anh a W ((W.ah.getD (((cN (dG W.ah) ((l.getD k default).bf)).getD 0).toNat) default)) ((W.ah.getD (((cN (dG W.ah) ((l.getD k default).kb)).getD 0).toNat) default)) _ (b8.keep (J ny x)) (ab8 _) (ab8 _)) Z<|bR Z Z (λ hc _=>dD (gt hc Z))<|ax Z (λ _=>gv Z Z Z Z)<|fn λ Hi kv=> ?_;have:=kv.size;have ob:=J ny kv;refine br<| ?_;refine c1 Z (λ yy=> ?_) (λ yy=> ?_)
     ·refine ej<|ei<|eh<|br<|rg<|aa (bad Z Z (ll (by omega)))<|vm Z<|nl<| ?_;have aR:j3 W (l.take (k+1))=((j3 W (l.take k)).1,(j3 W (l.take k)).2):=by rw [YH W (by omega),YE yy]
      have ag:=ag.later kv;have iL:=iL.later kv;have se:=((se.later kP).mod Eh (bl VP)).later kv;have p1:=p1.later kv;exact eX ⟨k+1,Z,Z,ob,ag,iL,(by rw [aR];exact se),(by rw [aR];exact p1),by omega,sy,mP,mQ,By,sz⟩
     ·have dP:=yy;simp only [cq] at dP;have i1:=(eb _ dP.1.1.1).1;have i2:=(eb _ dP.1.1.2).1;have aN:=er (((cN (dG W.ah) ((l.getD k default).kb)).getD 0).toNat);have cb:=abn (W.ah.getD (((cN (dG W.ah) ((l.getD k default).bf)).getD 0).toNat) default).kind;refine bE<|aF<|aa (au kk Z)<| ?_;have ag:=ag.later kv;refine bA Z ag mh Z<|vm Z<|aa (bX (((cN (dG W.ah) ((l.getD k default).bf)).getD 0).toNat) underlying50 kl Z Z ((b8.T.keep ob).bw (aZ (((cN (dG W.ah) ((l.getD k default).bf)).getD 0).toNat) (by omega))) (by omega) (by omega))<|aa (au Nf Z)<|aa (aB Z (Φ.aQ.ox js ((b8.T.keep ob).cg (aZ (((cN (dG W.ah) ((l.getD k default).bf)).getD 0).toNat) (by omega))) 2 (cj (l:=W.ah) (u:=default) (by omega)) Z a6))<|c0 Ng Z (Oq ((W.ah.getD (((cN (dG W.ah) ((l.getD k default).bf)).getD 0).toNat) default).kind) _) λ EJ eG=> ?_;have:=eG.size;have kz:=J ob eG;refine vm Z<|b0 Z Z<|b0 Z Z<|dn Nh Z λ K_ als n' aIM HI=> ?_;have zf:=J kz n';refine c9 Z Z HI Z Ni Z Z λ Wb Kl HI=> ?_;have A':=Ext.mod zf Kl bF;refine aT Z<|aK Z<|vm Z<| ?_;have p1:=(p1.later (J kv (J eG n'))).mod Kl (bl VQ);refine aa (bX (((cN (dG W.ah) ((l.getD k default).bf)).getD 0).toNat) underlying112 Dp Z Z (p1.has.bw (aZ (((cN (dG W.ah) ((l.getD k default).bf)).getD 0).toNat) (by omega))) (by omega) (by omega))<|so (q':=true) (j:=0) (i:=(((cN (dG W.ah) ((l.getD k default).bf)).getD 0).toNat)) p1 Φ.c6 (cj (l:=(j3 W (l.take k)).1) (u:=false) (by omega)) Z Z Z Z (λ _ cs h=>by have xf:=(show _∧_ from h).2;obtain rfl:=Jv h;exact ⟨rfl,trivial⟩) Z Z Dp λ VW lQ QT=> ?_;have A3:=Ext.mod A' lQ (λ q I=>(p1.lt q I).1);refine aJ<| ?_;refine dw [(3,0),(5,0),(8,3)] [0,1,2,3,4,5,6,7,8] ?_;refine bn Z Z<|bn Z Z<| ?_;have se:=((((se.later kP).mod Eh (bl VP)).later (J kv (J eG n'))).mod Kl (bl VP)).mod lQ (gg sz);refine ax Z (λ _=>bX (((cN (dG W.ah) ((l.getD k default).kb)).getD 0).toNat) underlying46 cr Z Z (se.has.bw (aZ (((cN (dG W.ah) ((l.getD k default).kb)).getD 0).toNat) (by omega))) (by omega) (by omega))<|cS Z (λ _ x=>aB Z (Φ.aQ.dj dA ((se.later x).has.cg (aZ (((cN (dG W.ah) ((l.getD k default).kb)).getD 0).toNat) (by omega))) (cj (l:=(j3 W (l.take k)).2) (u:=0) (by omega)) Z a6))<|ax Z (λ _=>au apu Z)<| ?_;have ann:∀ q∈Φ.ab (a_ vN),q=als→False:=λ q I af=>by (have:=VQ q I;omega)
      have HI:=HI.mod lQ (λ I=>ann _ I rfl);refine cP Z Z HI a6 Z<|ax Z (λ _=>bad Z Z (ll (by omega)))<|ax Z (λ _=>bX (((cN (dG W.ah) ((l.getD k default).kb)).getD 0).toNat) underlying46 cr Z Z (se.has.bw (aZ (((cN (dG W.ah) ((l.getD k default).kb)).getD 0).toNat) (by omega))) (by omega) (by omega))<|dC Z Z Z λ ahk rZ Q hK=>so (q':=(((j3 W (l.take k)).2).getD (((cN (dG W.ah) ((l.getD k default).kb)).getD 0).toNat) 0)+(yz ((W.ah.getD (((cN (dG W.ah) ((l.getD k default).bf)).getD 0).toNat) default).kind))) (j:=0) (i:=(((cN (dG W.ah) ((l.getD k default).kb)).getD 0).toNat)) (se.later rZ) Φ.c6 (cj (l:=(j3 W (l.take k)).2) (u:=0) (by omega)) Z Z Z Z (λ _ cs h=>by have xf:=(show _∧_ from h).2;obtain rfl:=dA h;exact ⟨rfl,cI.2 (by omega)⟩) Z Z cr λ aAQ yN Bn=>hK _ _ ?_;have Hs:=J A3 rZ;have Ws:=Ext.mod Hs yN (λ q I=>((se.later rZ).lt q I).1);refine fn λ PB lX=> ?_;have A4:=J Ws lX;refine cl<|br<|rg<|aa (bad Z Z (ll (by omega)))<|vm Z<|nl<| ?_;have aR:j3 W (l.take (k+1))=(((j3 W (l.take k)).1).set (((cN (dG W.ah) ((l.getD k default).bf)).getD 0).toNat) true,((j3 W (l.take k)).2).set (((cN (dG W.ah) ((l.getD k default).kb)).getD 0).toNat) ((((j3 W (l.take k)).2).getD (((cN (dG W.ah) ((l.getD k default).kb)).getD 0).toNat) 0)+(yz ((W.ah.getD (((cN (dG W.ah) ((l.getD k default).bf)).getD 0).toNat) default).kind)))):=by rw [YH W (by omega),YG yy]
      have ag:=(((((ag.later (J eG n')).mod Kl aY).mod lQ (λ I=>mQ _ I rfl)).later rZ).mod yN (λ I=>sy _ I rfl)).later lX;have iL:=(((((iL.later (J kv (J eG n'))).mod Kl aY).mod lQ (λ I=>By _ I rfl)).later rZ).mod yN (λ I=>mP _ I rfl)).later lX;have Bn:=Bn.later lX;have QT:=((QT.later rZ).mod yN sz).later lX;exact eX ⟨k+1,Z,Z,A4,ag,iL,(by rw [aR];exact Bn),(by rw [aR];exact QT),by omega,sy,mP,mQ,By,sz⟩
    ·refine ej<|ei<|eU<|eh<|br<|aK Z<|va Z<|bH Z<|ht Z Z Z<| ?_;obtain ⟨r1,r2⟩:=alE hH hT;have e:k=l.length:=by omega
     rw [e,aOQ] at se;rw [r1,r2];exact ⟨_,_,by rw [(Rk W l).2.1];rfl,se,tk⟩
end
section
variable {h:List Int} {k:Nat} {l:List eN}
theorem ajX:dN prog a8.rep 50 108 56:=dN.jz (z:=a8.zero) (k:=7) underlying50 a8.info rfl rfl (by decide) a8.k6
theorem ajY:dN prog bz 46 3 8:=dN.jz (z:=γ 0) (k:=1) underlying46 wG rfl rfl (by decide) (λ j u h=>AE j u h)
def wC (T:List a8) (h:List Int) (i:Nat):a8:= {T.getD i default with df:=(T.getD i default).df - h.getD i 0}
def pz (T:List a8) (h:List Int) (k:Nat):List a8:=((List.range k).map (wC T h)).filter λ t=>decide (0<t.df)
def pj (T:List a8) (h:List Int) (k:Nat):List Int:=(((List.range k).map (wC T h)).filter λ t=> !decide (0<t.df)).map a8.id
theorem au0 {T:List a8} (hp:0<(T.getD k default).df - h.getD k 0):pz T h (k+1)=pz T h k++ [wC T h k]:=by
 unfold pz;rw [aOb,aNx,aN0,aNF,aOf,aN7,aNd (show decide (0<(wC T h k).df)=true from aNp hp)];rfl
theorem auZ {T:List a8} (hp:¬ 0<(T.getD k default).df - h.getD k 0):pz T h (k+1)=pz T h k:=by
 unfold pz;rw [aOb,aNx,aN0,aNF,aOf,aN7,aM4 (show ¬ decide (0<(wC T h k).df)=true from λ e=>hp (aNY e))];simp
theorem aqE {T:List a8} (hp:0<(T.getD k default).df - h.getD k 0):pj T h (k+1)=pj T h k:=by
 unfold pj;rw [aOb,aNx,aN0,aNF,aOf,aN7,aM4 (show ¬ (!decide (0<(wC T h k).df))=true from by rw [aNp (show 0<(wC T h k).df from hp)];decide)];simp
theorem aqD {T:List a8} (hp:¬ 0<(T.getD k default).df - h.getD k 0):pj T h (k+1)=pj T h k++ [(T.getD k default).id]:=by
 unfold pj;rw [aOb,aNx,aN0,aNF,aOf,aN7,aNd (show (!decide (0<(wC T h k).df))=true from by rw [aNu (show ¬ 0<(wC T h k).df from hp)];rfl),aNx];rfl
theorem auY (T:List a8) (h:List Int) (k:Nat):(pz T h k).length≤k:=by unfold pz;exact aNm (aOw _ _) (by simp)
theorem aaY (T:List a8) (h:List Int) (k:Nat):(pj T h k).length≤k:=by unfold pj;rw [aNI];exact aNm (aOw _ _) (by simp)
theorem Rj {W:ae} (h:lL W l=0):W.a7=0∧l.length≤200:=by
 unfold lL at h;split at h
 ·contradiction
 ·rename_i hc
  split at h
  ·exact nomatch h
  ·exact ⟨by simpa using hc,by omega⟩
theorem Tk {W:ae} (h:lL W l=0):(fK W l).length=W.ah.length∧∀ k,0≤(fK W l).getD k 0∧(fK W l).getD k 0≤800:=by
 obtain ⟨κ,τ,aq⟩:=Rk W l;have bb:=(Rj h).2;have e:fK W l=(j3 W l).2:=by unfold fK;rw [h];rfl
 rw [e];exact ⟨τ,λ k=>by have:=aq k;omega⟩
theorem VF {w:World} {A:Option Addr} {c:Nat} {T:List a8} (h:a8.rep.aQ 56 w A c T) (k:Nat):(T.getD k default).ok:=by
 rw [aM0];cases aD:T[k]? with
 | none=>exact ⟨by decide,by decide,by decide,by decide,by decide,by decide,by decide⟩
 | some t=>exact Φ.aQ.Im (Q:=a8.ok) (λ h=>And.right (show _∧_ from h)) h t (aNN aD)
theorem Good.avb {W:ae} (ar:Good W) (aj:k<W.ah.length):1≤(W.ah.getD k default).df∧(W.ah.getD k default).df≤20:=by
 obtain ⟨t,aD⟩:=jq aj;have e:W.ah.getD k default=t:=by rw [aM0,aD];rfl
 rw [e];have κ:=ar.ah k t aD;have τ:ae.hj t.kind≤20:=by unfold ae.hj;split<;>(try split)<;>omega
 have:=κ.df;omega
def uv (W:ae) (l:List eN):ae:=if lL W l≠0 then ae.zero else {W with ah:=pz W.ah (fK W l) W.ah.length}
def yY (W:ae) (l:List eN):List Int:=if lL W l≠0 then [] else pj W.ah (fK W l) W.ah.length
def ak6 (W:ae) (l:List eN) (w:World) (e:Ending) (w':World):Prop :=
 ∃ a' A c,e= .returned (.tuple #[.agg (ae.cells a' (uv W l)).toArray, .slice A (yY W l).length c,γ (lL W l)])∧bt w' w.heap.size a' (uv W l)∧bz.aM 3 8 w' w.heap.size (Φ.ab A) A c (yY W l)∧(∀ q∈Φ.ab A,q∉bt.cA a')∧Ext w w'
theorem azT {W:ae} (h:¬ lL W l=0):uv W l=ae.zero∧yY W l= []:=by unfold uv yY;rw [aNd h,aNd h];exact ⟨Z,Z⟩
theorem Po {W:ae} (h:lL W l=0) (aj:k=W.ah.length):uv W l= {W with ah:=pz W.ah (fK W l) k}∧yY W l=pj W.ah (fK W l) k:=by
 subst aj;unfold uv yY;rw [aM4 (by simpa using h),aM4 (by simpa using h)];exact ⟨Z,Z⟩
theorem asT (a:ae.cW) (W:ae) (w:World) (b8:ae.Has w a W):
  Calls prog 117 #[.agg ((ae.cells a W).toArray)] w (λ e w'=>∃ a':ae.cW,e= .returned (.agg (ae.cells a' W).toArray)∧bt w' w.heap.size a' W∧Ext w w'):=by
 refine cx (n:=26) func117 Z Z Z ?_;refine fa Z Z λ dk bx bm fQ ag=> ?_;have jd:=ag.lt;refine dn p8 Z λ fT dJ bD j' aG=> ?_;have:=bD.size;have b7:=J bm bD;have qG:=aG.lt;refine aJ<|aF<|aa (au p7 Z)<|aa (au tK Z)<| ?_;have ag:=ag.later bD;refine bA Z ag fI Z<|ca Dq Z Z ((ye _ _ W.field.places _ (b8.P.keep b7)).mono ?_);rintro e AO ⟨zg,Bs,rfl,vw,asA,hy⟩;refine cF ?_;have:=hy.size;have nt:=J b7 hy;have pJ:=bZ vw.lt;have qw:=dL vw.lt;refine aa (au p7 Z)<|aa (au tK Z)<| ?_;have ag:=ag.later hy;refine fM Z Z ag Z yn Z Z λ rW mo ag=> ?_;have:=mo.size;have hZ:=Ext.mod nt mo bF;refine aJ<|aI<| ?_;refine dw [(1,0),(2,2),(4,0),(5,2),(7,3),(9,3)] [0,1,3,4,2,6,5,7,8,9] ?_;refine ax Z (λ _=>au sD Z)<|cP Z Z ag yo Z<|ax Z (λ _=>au tL Z)<|cP Z Z ag fI Z<|fW Z Z Z λ y5 dT Q hK=>ca R5 Z Z ((MG _ _ W.bj _ (b8.B.keep (J hZ dT))).mono ?_);rintro e K3 ⟨Qb,Ro,rfl,vx,asB,lY⟩;refine ⟨_,Z,hK _ _ ⟨J dT lY, ?_⟩⟩;have:=dT.size;have lA:=J hZ dT;have:=lY.size;have s_:=J lA lY;have y1:=bZ vx.lt;have sQ:=dL vx.lt;refine ax Z (λ _=>au sD Z)<|fW Z Z Z λ Ct fp Q hK=>ca Dq Z Z ((ye _ _ W.bh _ (b8.S.keep (J s_ fp))).mono ?_);rintro e s4 ⟨Qd,Rp,rfl,vy,asC,iw⟩;refine ⟨_,Z,hK _ _ ⟨J fp iw, ?_⟩⟩;have:=fp.size;have oa:=J s_ fp;have:=iw.size;have k4:=J oa iw;have KV:=bZ vy.lt;have lp:=dL vy.lt;have ag:=ag.later (J dT (J lY (J fp iw)));refine dC Z Z Z λ ED fD Q hK=>fM Z Z (ag.later fD) Z R6 Z Z λ xt sS ag=>hK _ _ ?_;have:=fD.size;have o7:=J k4 fD;have:=sS.size;have nx:=Ext.mod o7 sS bF;refine ax Z (λ _=>au tL Z)<|dC Z Z Z λ EE hJ Q hK=>fM Z Z (ag.later hJ) Z yn Z Z λ EF gj ag=>hK _ _ ?_;have:=hJ.size;have tj:=J nx hJ;have:=gj.size;have l7:=Ext.mod tj gj bF;refine fn λ uF fq=> ?_;have:=fq.size;have jX:=J l7 fq;refine br<|aI<| ?_;refine dw [(1,0),(2,2),(4,0),(5,2),(7,3),(9,3)] [0,1,3,4,2,6,5,7,8,9] ?_;refine ax Z (λ _=>au FT Z)<| ?_;have ag:=ag.later fq;refine cP Z Z ag fI Z<|ax Z (λ _=>au kk Z)<|cP Z Z ag mh Z<|fW Z Z Z λ PG gY Q hK=>ca Dq Z Z ((ye _ _ W.bY _ (b8.M.keep (J jX gY))).mono ?_);rintro e K6 ⟨Qf,Ft,rfl,vz,asD,o5⟩;refine ⟨_,Z,hK _ _ ⟨J gY o5, ?_⟩⟩;have:=gY.size;have A9:=J jX gY;have:=o5.size;have r5:=J A9 o5;have VL:=bZ vz.lt;have sR:=dL vz.lt;refine ax Z (λ _=>au FT Z)<|fW Z Z Z λ PJ iR Q hK=>ca R7 Z Z ((MH _ _ W.ah _ (b8.T.keep (J r5 iR))).mono ?_);rintro e PM ⟨Qh,MD,rfl,zy,asE,fc⟩;refine ⟨_,Z,hK _ _ ⟨J iR fc, ?_⟩⟩;have:=iR.size;have u':=J r5 iR;have EZ:=J u' fc;have qx:=dL zy.lt;have ag:=ag.later (J gY (J o5 (J iR fc)));refine dC Z Z Z λ ahw o6 Q hK=>fM Z Z (ag.later o6) Z yn Z Z λ EI kG ag=>hK _ _ ?_;have Lt:=J EZ o6;have jY:=Ext.mod Lt kG bF;refine ax Z (λ _=>au kk Z)<|dC Z Z Z λ K9 gT Q hK=>fM Z Z (ag.later gT) Z IW Z Z λ EJ qB ag=>hK _ _ ?_;have ve:=J jY gT;have kz:=Ext.mod ve qB bF;refine fn λ PO jH=> ?_;have vg:=J kz jH;refine br<|aF<| ?_;have ag:=ag.later jH;refine aa (aB Z (ag.all fg cQ))<| ?_;have aG:=((((((((((aG.later hy).mod mo aY).later (J dT (J lY (J fp (J iw fD))))).mod sS aY).later hJ).mod gj aY).later (J fq (J gY (J o5 (J iR (J fc o6)))))).mod kG aY).later gT).mod qB aY).later jH;refine c9 Z Z aG Z cQ Z Z λ ahA mq aG=> ?_;have Lv:=Ext.mod vg mq bF;refine tZ<|dS (.cell Z (aG.all fg cQ) .nil)<| ?_;have vw:=((((((((((vw.mod mo (bG qw)).later (J dT (J lY (J fp (J iw fD))))).mod sS (bG qw)).later hJ).mod gj (bG qw)).later (J fq (J gY (J o5 (J iR (J fc o6)))))).mod kG (bG qw)).later gT).mod qB (bG qw)).later jH).mod mq (bG qw);have vx:=(((((((((vx.later (J fp (J iw fD))).mod sS (bG sQ)).later hJ).mod gj (bG sQ)).later (J fq (J gY (J o5 (J iR (J fc o6)))))).mod kG (bG sQ)).later gT).mod qB (bG sQ)).later jH).mod mq (bG sQ);have vy:=(((((((((vy.later fD).mod sS (bG lp)).later hJ).mod gj (bG lp)).later (J fq (J gY (J o5 (J iR (J fc o6)))))).mod kG (bG lp)).later gT).mod qB (bG lp)).later jH).mod mq (bG lp);have vz:=(((((vz.later (J iR (J fc o6))).mod kG (bG sR)).later gT).mod qB (bG sR)).later jH).mod mq (bG sR);have zy:=(((((zy.later o6).mod kG (bG qx)).later gT).mod qB (bG qx)).later jH).mod mq (bG qx);have hR:=bt.UP (aA:=w.heap.size) (vw.down (by omega)) (vx.down (by omega)) (vy.down (by omega)) (vz.down (by omega)) (zy.down (by omega)) (λ q κ τ=>by exfalso;(have:=sQ q κ;(have:=pJ q τ;omega))) (λ q κ τ=>by exfalso;(have:=lp q κ;(have:=pJ q τ;omega))) (λ q κ τ=>by exfalso;(have:=lp q κ;(have:=y1 q τ;omega))) (λ q κ τ=>by exfalso;(have:=sR q κ;(have:=pJ q τ;omega))) (λ q κ τ=>by exfalso;(have:=sR q κ;(have:=y1 q τ;omega))) (λ q κ τ=>by exfalso;(have:=sR q κ;(have:=KV q τ;omega))) (λ q κ τ=>by exfalso;(have:=qx q κ;(have:=pJ q τ;omega))) (λ q κ τ=>by exfalso;(have:=qx q κ;(have:=y1 q τ;omega))) (λ q κ τ=>by exfalso;(have:=qx q κ;(have:=KV q τ;omega))) (λ q κ τ=>by exfalso;(have:=qx q κ;(have:=VL q τ;omega))) b8.nums;exact ⟨⟨zg,Qb,Qd,Qf,Qh,Bs,Ro,Rp,Ft,MD⟩,Z,hR,Lv⟩
theorem azR (l:List eN) (A:Option Addr) (c:Nat) (a:ae.cW) (W:ae) (w:World) (b8:ae.Has w a W) (ay:eN.rep.aQ 16 w A c l):
  Calls prog 87 #[.agg ((ae.cells a W).toArray), .slice A l.length c] w (ak6 W l w):=by
 refine cx (n:=62) func87 Z Z Z ?_;refine fa Z Z λ dk bx bm fQ ag=> ?_;have jd:=ag.lt;refine dn p8 Z λ fT dJ bD j' aG=> ?_;have b7:=J bm bD;have qG:=aG.lt;refine va Z<|aT Z<|aF<| ?_;have ag:=ag.later bD;refine aa (aB Z (ag.all fg cQ))<|vm Z<|ca apv Z Z ((alF a W l _ _ _ (b8.keep b7) (ay.keep b7)).mono ?_);rintro e AO ⟨zg,Bs,rfl,oi,hy⟩;refine cF ?_;have:=hy.size;have nt:=J b7 hy;have pJ:=bZ oi.lt;have qw:=dL oi.lt;refine vm Z<|b0 Z Z<|b0 Z Z<|va Z<|aT Z<|aI<|aK Z<|gN Z Z<|aJ<| ?_;refine oq Z (λ yw=> ?_) (λ yw=> ?_)
 ·refine aF<|aa (v:= .agg #[γ 0,γ 0, .slice none 0 0, .slice none 0 0, .slice none 0 0, .slice none 0 0, .slice none 0 0,γ 0,γ 0]) (hC Z)<|vm Z<| ?_;have aG:=aG.later hy;refine c9 Z Z aG Z cQ Z Z λ qO At aG=> ?_;have gU:=Ext.mod nt At bF;refine va Z<|bH Z<|cU<|dS (.cell Z (aG.all fg cQ) (.tmp Z (.tmp Z .nil)))<| ?_;obtain ⟨aR,a1⟩:=azT yw;exact ⟨⟨none,none,none,none,none,0,0,0,0,0⟩,none,0,by rw [aR,a1];rfl,by rw [aR];exact bt.zero _ _,by rw [a1];exact Φ.aM.nil _,λ q I=>by simp [Φ.ab] at I,gU⟩
 ·obtain ⟨hc,aF4⟩:=Rj yw;have ar:=Good.um hc;have BZ:=ar.dD;obtain ⟨q7,fe⟩:=Tk yw;have dp:=VF b8.T;have mX:=λ k (aj:k<W.ah.length)=>ar.avb aj;refine bE<|aF<| ?_;have ag:=ag.later hy;refine aa (aB Z (ag.all fg cQ))<|ca apw Z Z ((asT a W _ (b8.keep nt)).mono ?_);rintro e EC ⟨di,rfl,bc,jD⟩;refine cF ?_;have:=jD.size;have nv:=J nt jD;have Ez:=bZ bc.lt;have Ut:=dL bc.lt;have ag:=ag.later jD;refine st Z Z ag Z cQ Z Z Z λ AQ jQ ag=> ?_;have:=jQ.size;have jg:=Ext.mod nv jQ bF;refine aJ<|aF<|aT Z<|aF<|aa (au kk Z)<|bA Z ag mh Z<|aa (dr underlying50 Z)<|avO (R:=a8.rep) (by_:=56) (B:=w.heap.size) (c:=W.ah.length) (zv:=a8.zero) Φ.rm underlying50 a8.info Z (by decide) a8.k6 Z Z Z (by omega) (by omega) (by omega) λ Hg Rf iv aIn QZ=> ?_;have r4:=J jg iv;have wH:∀ q∈Φ.ab (a_ Rf),Rf≤q:=λ q I=>aOT (aMZ.1 I).symm;refine aT Z<|aI<|aF<|aa (au kk Z)<| ?_;have ag:=ag.later iv;refine bA Z ag mh Z<|aa (dr underlying50 Z)<|vm Z<|aJ<|bT<| ?_;have dW:=uw (jQ) iv;have oi:=(oi.later jD).mod dW (bG qw);have bc:=bc.mod dW (bG Ut);have aG:=(aG.later (J hy jD)).mod dW aY;refine gi (λ cJ cu aV=>∃ k:Nat,∃ vk:Option Addr,∃ IF:Nat,∃ eB:Option Addr,∃ ID:Nat,cu= [(2, .pointer (a_ bx)),(4, .pointer (a_ dJ)),(5, .slice none 0 0),(6,γ 0),(7, .slice zg ((fK W l).length) Bs),(9, .slice eB ((pj W.ah (fK W l) k).length) ID),(10, .slice vk ((pz W.ah (fK W l) k).length) IF),(30, .slice di.T W.ah.length di.t),(31,γ (W.ah.length:Int)),(32,γ (k:Int))]∧cJ=W.ah.length - k∧Ext w aV∧aO aV bx (ae.cells di W) 52 (0,0)∧aO aV dJ [γ 0,γ 0, .slice none 0 0, .slice none 0 0, .slice none 0 0, .slice none 0 0, .slice none 0 0,γ 0,γ 0] 52 (0,0)∧bz.aM 3 8 aV fT.heap.size (Φ.ab zg) zg Bs (fK W l)∧bt aV AO.heap.size di W∧a8.rep.aM 108 56 aV w.heap.size (Φ.ab vk) vk IF (pz W.ah (fK W l) k)∧bz.aM 3 8 aV w.heap.size (Φ.ab eB) eB ID (pj W.ah (fK W l) k)∧(k≤W.ah.length)∧(∀ q∈Φ.ab vk,q=bx→False)∧(∀ q∈Φ.ab vk,q=dJ→False)∧(∀ q∈Φ.ab vk,q∈bt.cA di→False)∧(∀ q∈Φ.ab vk,q∈Φ.ab zg→False)∧(∀ q∈Φ.ab eB,q=bx→False)∧(∀ q∈Φ.ab eB,q=dJ→False)∧(∀ q∈Φ.ab eB,q∈bt.cA di→False)∧(∀ q∈Φ.ab eB,q∈Φ.ab zg→False)∧(∀ q∈Φ.ab eB,q∈Φ.ab vk→False)) _ _ ⟨0,some ⟨Rf,0,none⟩,W.ah.length,none,0,Z,Z,r4,ag,aG,oi,bc,QZ,(Φ.aM.nil _),by omega,(λ q I af=>by (have:=wH q I;omega)),(λ q I af=>by (have:=wH q I;omega)),(λ q I af=>by (have:=wH q I;(have:=Ez q af;omega))),(λ q I af=>by (have:=wH q I;(have:=pJ q af;omega))),(λ q I af=>by (simp [Φ.ab] at I)),(λ q I af=>by (simp [Φ.ab] at I)),(λ q I af=>by (simp [Φ.ab] at I)),(λ q I af=>by (simp [Φ.ab] at I)),(λ q I af=>by (simp [Φ.ab] at I))⟩ (eS Z Z Z) ?_;rintro gj ajt EF ⟨k,vk,IF,eB,ID,rfl,rfl,l7,ag,aG,oi,bc,vB,vA,aj,vQ,yi,yj,FD,Bx,MW,Df,zQ,zR⟩;have U1:=ag.lt;have afQ:=aG.lt;have AN:=bZ oi.lt;have Cr:=bZ bc.lt;have KX:=bZ vB.lt;have KY:=bZ vA.lt;have Cf:=auY W.ah (fK W l) k;have rM:=aaY W.ah (fK W l) k;refine aF<|fB Z Z<|aJ<|aI<| ?_;refine fH Z (λ arb=> ?_) (λ arb=> ?_)
  ·obtain ⟨v1,v2⟩:=fe k;have aGH:=mX k (by omega);refine bE<|aI<|bT<|aK Z<|aa (bX k underlying50 kl Z Z (bc.T.has.bw (aZ k)) Z (by omega))<|aa (aB Z (Φ.aQ.jJ js (bc.T.has.cg (aZ k)) (cj (l:=W.ah) (u:=default) (by omega)) zZ kl))<|dn FQ Z λ PH aEV uV aIz vl=> ?_;have tk:=J l7 uV;have afS:=vl.lt;refine va Z<|c9 Z Z vl Z kl Z Z λ PK gW vl=> ?_;have:=gW.size;have A_:=Ext.mod tk gW bF;refine aJ<|aI<| ?_;refine dw [(1,0),(5,0),(8,3)] [0,1,2,3,4,5,6,7,8] ?_;refine ax Z (λ _=>au Nl Z)<|cP Z Z vl a6 Z<|bn Z Z<|bn Z Z<| ?_;have oi:=(oi.later uV).mod gW (c2 λ q I af=>by have:=AN q I;have:=pJ q I;omega);refine ax Z (λ _=>bX k underlying46 cr Z Z (oi.has.bw (aZ k)) Z (by omega))<|cS Z (λ _ x=>aB Z (Φ.aQ.dj dA ((oi.later x).has.cg (aZ k)) (cj (l:=fK W l) (u:=0) (by omega)) Z a6))<|ax Z (λ _=>iM Z Z fP)<|ax Z (λ _=>au Nl Z)<|dC Z Z Z λ PM fc Q hK=>fM Z Z (vl.later fc) Z cr Z Z λ aA9 rJ vl=>hK _ _ ?_;have:=fc.size;have EZ:=J A_ fc;have:=rJ.size;have WM:=Ext.mod EZ rJ bF;refine fn λ PN gC=> ?_;have:=gC.size;have qV:=J WM gC;refine br<|aF<|aa (au Nl Z)<| ?_;have vl:=vl.later gC;refine bA Z vl a6 Z<|aa (hO Z Z)<|aJ<| ?_;refine fH Z (λ wb=> ?_) (λ wb=> ?_)
   ·refine rg<|vm Z<|aa (aB Z (vl.all zZ kl))<|b_ (e:= 108) (cs:= [γ ((W.ah.getD k default).id),γ ((W.ah.getD k default).owner),γ ((W.ah.getD k default).kind),γ ((W.ah.getD k default).spot.x),γ ((W.ah.getD k default).spot.y),γ (((W.ah.getD k default).df) - ((fK W l).getD k 0)),γ ((W.ah.getD k default).load)]) Z (λ _=>by kernel_rfl) Z λ K9 aE3 ES aIJ XB=> ?_;have ve:=J qV ES;have aKY:=XB.lt;have vB:=((((vB.later uV).mod gW (bl KX)).later fc).mod rJ (bl KX)).later (J gC ES);refine ap ajX Φ.c6 vB (aO.fy (R:=a8.rep) (by_:=56) (q:=(⟨(W.ah.getD k default).id,(W.ah.getD k default).owner,(W.ah.getD k default).kind,⟨(W.ah.getD k default).spot.x,(W.ah.getD k default).spot.y⟩,((W.ah.getD k default).df) - ((fK W l).getD k 0),(W.ah.getD k default).load⟩:a8)) XB ⟨Z,by obtain ⟨ui,pB,rP,uj,uk,OU,UO⟩:=dp k;exact ⟨ui,pB,rP,uj,uk,gl,UO⟩⟩ (by decide)) Z Z (by simp only [aM1,aM5];omega) (by simp only [aM1,aM5];omega) ve.size Z λ PO aiW amK rK akQ Jd aJL=> ?_;have vg:=Ext.mod ve rK (λ q I=>(vB.lt q I).1);refine va Z<|nl<|cl<|eR Z Z Z<| ?_;have aR:pz W.ah (fK W l) (k+1)=pz W.ah (fK W l) k++ [(⟨(W.ah.getD k default).id,(W.ah.getD k default).owner,(W.ah.getD k default).kind,⟨(W.ah.getD k default).spot.x,(W.ah.getD k default).spot.y⟩,((W.ah.getD k default).df) - ((fK W l).getD k 0),(W.ah.getD k default).load⟩:a8)]:=by rw [au0 wb];try rfl
    have a1:pj W.ah (fK W l) (k+1)=pj W.ah (fK W l) k:=by rw [aqE wb];try rfl
    have ag:=(((((ag.later uV).mod gW aY).later fc).mod rJ aY).later (J gC ES)).mod rK (λ I=>vQ _ I rfl);have aG:=(((((aG.later uV).mod gW aY).later fc).mod rJ aY).later (J gC ES)).mod rK (λ I=>yi _ I rfl);have oi:=(((oi.later fc).mod rJ (c2 λ q I af=>by have:=AN q I;have:=pJ q I;omega)).later (J gC ES)).mod rK (gg FD);have bc:=(((((bc.later uV).mod gW (c2 λ q I af=>by have:=Cr q I;have:=Ez q I;omega)).later fc).mod rJ (c2 λ q I af=>by have:=Cr q I;have:=Ez q I;omega)).later (J gC ES)).mod rK (gg yj);have vA:=(((((vA.later uV).mod gW (bl KY)).later fc).mod rJ (bl KY)).later (J gC ES)).mod rK zR;exact lT _ _ ⟨k+1,aiW,amK,eB,ID,Z,Z,vg,ag,aG,oi,bc,(by rw [aR];exact akQ),(by rw [a1];exact vA),by omega,(gz Jd vQ),(gz Jd yi),(λ q I af=>by (exact aNq (Jd q I) (λ acI=>by (exact yj q acI af)) (λ acI=>by (have:=Cr q af;have:=Ez q af;omega)))),(λ q I af=>by (exact aNq (Jd q I) (λ acJ=>by (exact FD q acJ af)) (λ acJ=>by (have:=AN q af;have:=pJ q af;omega)))),Bx,MW,Df,zQ,(gg (oT Jd (gg zR) KY))⟩ (by omega) (.cons Z (.cons Z (.cons Z (.cons Z (.cons Z (.cons (by rw [a1];rfl) (.cons (by rw [aR];rfl) (eS Z Z Z))))))))
   ·refine rg<|vm Z<|aa (au FR Z)<|bA Z vl a6 Z<|b_ (e:= 3) (cs:= [γ ((W.ah.getD k default).id)]) Z (λ _=>by kernel_rfl) Z λ ahk aEp fN aHW Xe=> ?_;have Hs:=J qV fN;have aJ8:=Xe.lt;have vA:=((((vA.later uV).mod gW (bl KY)).later fc).mod rJ (bl KY)).later (J gC fN);refine ap ajY Φ.c6 vA (aO.fy (R:=bz) (by_:=8) (q:=(W.ah.getD k default).id) Xe ⟨Z,(dp k).1⟩ (by decide)) Z Z (by simp only [aM1,aM5];omega) (by simp only [aM1,aM5];omega) Hs.size Z λ aLB aiv amg wM ako I7 aJb=> ?_;have aB5:=Ext.mod Hs wM (λ q I=>(vA.lt q I).1);refine va Z<|nl<|cl<|eR Z Z Z<| ?_;have aR:pz W.ah (fK W l) (k+1)=pz W.ah (fK W l) k:=by rw [auZ wb];try rfl
    have a1:pj W.ah (fK W l) (k+1)=pj W.ah (fK W l) k++ [(W.ah.getD k default).id]:=by rw [aqD wb];try rfl
    have ag:=(((((ag.later uV).mod gW aY).later fc).mod rJ aY).later (J gC fN)).mod wM (λ I=>Bx _ I rfl);have aG:=(((((aG.later uV).mod gW aY).later fc).mod rJ aY).later (J gC fN)).mod wM (λ I=>MW _ I rfl);have oi:=(((oi.later fc).mod rJ (c2 λ q I af=>by have:=AN q I;have:=pJ q I;omega)).later (J gC fN)).mod wM (gg zQ);have bc:=(((((bc.later uV).mod gW (c2 λ q I af=>by have:=Cr q I;have:=Ez q I;omega)).later fc).mod rJ (c2 λ q I af=>by have:=Cr q I;have:=Ez q I;omega)).later (J gC fN)).mod wM (gg Df);have vB:=(((((vB.later uV).mod gW (bl KX)).later fc).mod rJ (bl KX)).later (J gC fN)).mod wM (gg zR);exact lT _ _ ⟨k+1,vk,IF,aiv,amg,Z,Z,aB5,ag,aG,oi,bc,(by rw [aR];exact vB),(by rw [a1];exact ako),by omega,vQ,yi,yj,FD,(gz I7 Bx),(gz I7 MW),(λ q I af=>by (exact aNq (I7 q I) (λ JZ=>by (exact Df q JZ af)) (λ JZ=>by (have:=Cr q af;have:=Ez q af;omega)))),(λ q I af=>by (exact aNq (I7 q I) (λ J0=>by (exact zQ q J0 af)) (λ J0=>by (have:=AN q af;have:=pJ q af;omega)))),(oT I7 zR KX)⟩ (by omega) (.cons Z (.cons Z (.cons Z (.cons Z (.cons Z (.cons (by rw [a1];rfl) (.cons (by rw [aR];rfl) (eS Z Z Z))))))))
  ·refine ej<|ei<|eU<|eh<|br<|aK Z<|aa (au kk Z)<|fM Z Z ag Z IW Z Z λ aLI Kb ag=> ?_;have aCb:=Ext.mod l7 Kb bF;refine aJ<|aF<|aa (aB Z (ag.all fg cQ))<|vm Z<| ?_;have aG:=aG.mod Kb aY;refine c9 Z Z aG Z cQ Z Z λ ahl D8 aG=> ?_;have Ln:=Ext.mod aCb D8 bF;refine va Z<|bH Z<|dS (.cell Z (aG.all fg cQ) (.tmp Z (.tmp Z .nil)))<| ?_;have bc:=(bc.mod Kb (bG Ut)).mod D8 (bG Ut);have vB:=(vB.mod Kb (c2 vQ)).mod D8 (c2 yi);have vA:=(vA.mod Kb (c2 Bx)).mod D8 (c2 MW);obtain ⟨aR,a1⟩:=Po yw (k:=k) (by omega);have aX:=bt.ae6 (bc.down (by omega)) vB yj;refine ⟨{di with T:=vk,t:=IF},eB,ID,by rw [yw,aR,a1];rfl,by rw [aR];exact aX,by rw [a1];exact vA,λ q I=> ?_,Ln⟩;intro hf;rcases ap9 hf with κ | κ
   ·exfalso;(exact Df q I κ)
   ·exfalso;(exact zR q I κ)
end
section
variable {α:Type} {by_ c k:Nat} {w:World} {A:Option Addr} {t:a8} {l:List dU} {f:av}
theorem aj6:dN prog bz 46 3 8:=dN.jz (z:=γ 0) (k:=1) underlying46 wG rfl rfl (by decide) (λ j u h=>AE j u h)
theorem Φ.aQ.kq {R:Φ α} {w':World} {l:List α} {F:List Nat} (h:R.aQ by_ w A c l) (hp:R.Plain) (m:Mod F w w') (d:0<l.length→∀ q∈Φ.ab A,q∉F):R.aQ by_ w' A c l:=by
 obtain ⟨κ,τ,aq,bb,ess,bV,cy,ed⟩:=h;refine ⟨κ,τ,aq,bb,ess,bV.imp (λ es a _ h=>R.rQ (R.rR (hp (B:=0) h) (by simp))),cy,λ aC=> ?_⟩;obtain ⟨b,o,rfl,hc⟩:=ed aC;refine ⟨b,o,Z,λ j u hu=> ?_⟩;have fx:=hc j u hu;have af:b<w.heap.size:=by
  apply aPI;intro hn;have:w.heap[b]? =none:=aNT (by omega);simp [World.cell?,this] at fx
 have aj:=m.block b af (d aC b (by simp [Φ.ab]));simp only [World.cell?] at fx ⊢;rw [aj];exact fx
theorem MF {T:List ai} (h:ai.rep.aQ 16 w A c T) (k:Nat):(T.getD k default).ok:=by
 rw [aM0];cases aD:T[k]? with
 | none=>exact ⟨by decide,by decide⟩
 | some t=>exact h.Im (λ dP=>(show _∧_ from dP).2) t (aNN aD)
theorem Pj (h:t.ok):t.spot.ok:=by
 obtain ⟨κ,τ,aq,bb,bV,cy,ed⟩:=h;exact ⟨bb,bV⟩
theorem az1 {c:ai} (h:t.ok) (hc:c.ok):(t.bg c).ok:=by
 obtain ⟨κ,τ,aq,bb,bV,cy,ed⟩:=h;exact ⟨κ,τ,aq,hc.1,hc.2,cy,ed⟩
theorem aqC {id:Int} (h:¬ eo l id<0):0≤eo l id∧(eo l id).toNat<l.length:=by
 rcases aqB l id with ⟨κ,_⟩ | ⟨k,κ,τ,_⟩<;>omega
theorem azI {T:List a8} (h:eo l (T.getD k default).id<0):step1 f l T k=none:=by unfold step1;rw [aNd h]
theorem azJ {T:List a8} (aC:0≤eo l (T.getD k default).id)
  (h:(eI f (T.getD k default).spot (l.getD (eo l (T.getD k default).id).toNat default).bg≠0∨((cR f (T.getD k default).spot (l.getD (eo l (T.getD k default).id).toNat default).bg).length:Int)<2)∨0<ig T ((cR f (T.getD k default).spot (l.getD (eo l (T.getD k default).id).toNat default).bg).getD 1 default)):step1 f l T k=none:=by
 unfold step1;rw [aM4 (by omega)];split
 ·rfl
 ·split
  ·rfl
  ·rw [aNd];rcases h with (h | h) | h
   ·contradiction
   ·omega
   ·exact h
theorem azK {T:List a8} (aC:0≤eo l (T.getD k default).id)
  (h:(eI f (T.getD k default).spot (l.getD (eo l (T.getD k default).id).toNat default).bg=0∧2≤((cR f (T.getD k default).spot (l.getD (eo l (T.getD k default).id).toNat default).bg).length:Int))∧ig T ((cR f (T.getD k default).spot (l.getD (eo l (T.getD k default).id).toNat default).bg).getD 1 default)≤0):
  step1 f l T k=some ((cR f (T.getD k default).spot (l.getD (eo l (T.getD k default).id).toNat default).bg).getD 1 default):=by
 obtain ⟨⟨κ,τ⟩,aq⟩:=h;unfold step1;rw [aM4 (by omega),aM4 (by simpa using κ),aM4 (by omega),aM4 (by omega)]
theorem Φ.aQ.avL {R:Φ α} {l:List α} (h:R.aQ by_ w A c l) (hs:0<R.size) (aC:0<l.length):∀ q∈Φ.ab A,q<w.heap.size:=by
 obtain ⟨κ,τ,aq,bb,ess,bV,cy,ed⟩:=h;obtain ⟨b,o,rfl,hc⟩:=ed aC;intro q I;obtain rfl:q=b:=by simpa [Φ.ab] using I
 have ay:0<ess.flatten.length:=by rw [cy];exact Nat.mul_pos aC hs
 have fx:=hc 0 _ (aM3 ay);apply aPI;intro hn;have:w.heap[q]? =none:=aNT (by omega);simp [World.cell?,this] at fx
theorem atz (km:FuncId) (cs:List Value) (p:dU→Bool) (A:Option Addr) (c:Nat) (l:List dU) (w:World) (ay:dU.rep.aQ 24 w A c l) (Jg:Enters prog km) (j5:∀ x∈l,∀ w',Ext w w'→Calls prog km (([.agg #[γ x.id,γ x.bg.x,γ x.bg.y]]:List Value)++cs).toArray w' λ e ku=>e= .returned (.bool (p x))∧Ext w' ku):
  Calls prog 141 #[.slice A l.length c, .func (.func km) #[] cs.toArray] w (λ e w'=>e= .returned (γ (hi p l))∧Ext w w'):=by
 have Gp:=ay.kr;refine cx (n:=19) func141 Z Z Z ?_;refine aF<|aT Z<|aI<|aK Z<|aa (dr underlying144 Z)<|vm Z<|aJ<|bT<| ?_;refine gi (λ cJ cu aV=>∃ k:Nat,cu= [(0, .slice A l.length c),(1, .func (.func km) #[] cs.toArray),(7,γ (l.length:Int)),(8,γ (k:Int))]∧cJ=l.length - k∧Ext w aV∧(k≤l.length)∧(∀ i,i<k→p (l.getD i default)=false)) _ _ ⟨0,Z,Z,(Ext.bN w),by omega,λ i ak=>by omega⟩ (eS Z Z Z) ?_;rintro wQ HL dk ⟨k,rfl,rfl,dM,aj,aU⟩;refine aF<|fB Z Z<|aJ<|aI<| ?_;refine fH Z (λ S_=> ?_) (λ S_=> ?_)
 ·refine bE<|aI<|bT<|aK Z<|aT Z<|aK Z<|vm Z<|vm Z<|aa (bX k underlying144 R8 Z Z ((ay.keep dM).bw (aZ k)) Z (by omega))<|aa (aB Z (Φ.aQ.jJ abB ((ay.keep dM).cg (aZ k)) (cj (l:=l) (u:=default) (by omega)) apx R8))<|Rw Jg Z Z Z ((j5 (l.getD k default) (mr (by omega)) _ dM).mono ?_);rintro e aht ⟨rfl,d'⟩;refine cF ?_;have EY:=J dM d';refine aJ<| ?_;refine c1 Z (λ Dy=> ?_) (λ Dy=> ?_)
  ·refine aK Z<|bH Z<|hq<|cU<|Ey<|hq<|cU<|cZ Z Z<| ?_;exact ⟨by have e:=atF (p:=p) (l:=l) (d:=default) (k:=k) (by omega) Dy aU;rw [e];rfl,EY⟩
  ·refine fZ<|cl<|eR Z Z Z<| ?_;exact eX ⟨k+1,Z,Z,EY,by omega,D3 aU Dy⟩
 ·refine ej<|ei<|eU<|eh<|br<|aF<|bH Z<|cZ Z Z<| ?_;exact ⟨by have e:=atD (p:=p) (l:=l) (d:=default) (λ i ak=>aU i (by omega));rw [e];rfl,dM⟩
theorem av8 (x:dU) (b k:Nat) (A:Option Addr) (c:Nat) (T:List a8) (w:World) (aE:aO w b [.pointer (some ⟨et A,jR A+k * 7,none⟩)] 214 (0,0)) (aX:a8.rep.aQ 56 w A c T) (aj:k<T.length):
  Calls prog 142 #[.agg #[γ x.id,γ x.bg.x,γ x.bg.y], .pointer (a_ b)] w (λ e w'=>e= .returned (.bool (x.id == (T.getD k default).id))∧Ext w w'):=by
 refine cx (n:=11) func142 Z Z Z ?_;refine fa Z Z λ dk bx bm fQ ag=> ?_;refine aT Z<|aI<| ?_;refine dw [(1,0),(2,0),(5,0)] [0,1,2,3,4,5,6,7] ?_;refine ax Z (λ _=>au apy Z)<|cP Z Z ag a6 Z<| ?_;have aE:=aE.later bm;refine cP Z Z aE FU Z<|ax Z (λ _=>b3 Z)<|ax Z (λ _=>au FR Z)<|cS Z (λ _ x=>aB Z (Φ.aQ.ox js ((aX.keep (J bm x)).cg (aZ k)) 0 (cj (l:=T) (u:=default) (by omega)) Z a6))<|ax Z (λ _=>beq Z Z)<|ax Z (λ _=>eV Z)<|fn λ fT ea=> ?_;have b7:=J bm ea;refine br<|rt<|cZ Z Z<| ?_;exact ⟨Z,b7⟩
theorem av7 (b k:Nat) (l:List dU) (A:Option Addr) (c:Nat) (Mh:Option Addr) (tc:Nat) (T:List a8) (w:World) (ay:dU.rep.aQ 24 w A c l) (aE:aO w b [.pointer (some ⟨et Mh,jR Mh+k * 7,none⟩)] 214 (0,0)) (aX:a8.rep.aQ 56 w Mh tc T) (aj:k<T.length):
  Calls prog 141 #[.slice A l.length c, .func (.func 142) #[] #[.pointer (a_ b)]] w (λ e w'=>e= .returned (γ (eo l (T.getD k default).id))∧Ext w w'):=
 atz 142 [.pointer (a_ b)] (λ g=>g.id == (T.getD k default).id) A c l w ay apz (λ x hx w' h=>av8 x b k Mh tc T w' (aE.later h) (aX.keep h) aj)
theorem azO (w0:World) (a:ae.cW) (W:ae) (A:Option Addr) (c:Nat) (l:List dU) (w:World) (bL:bz.aQ 8 w a.P a.p W.field.places) (aX:a8.rep.aM 108 56 w w0.heap.size (Φ.ab a.T) a.T a.t W.ah) (arF:∀ q∈Φ.ab a.P,q∉Φ.ab a.T) (ay:dU.rep.aQ 24 w A c l) (Gj:0<l.length→∀ q∈Φ.ab A,q∉Φ.ab a.T) (BZ:W.ah.length≤100000):
  Calls prog 119 #[.agg ((ae.cells a W).toArray), .slice A l.length c] w (λ e w'=>∃ bS cn,e= .returned (.slice bS (W.k2 l).2.length cn)∧bz.aM 3 8 w' w.heap.size (Φ.ab bS) bS cn (W.k2 l).2∧a8.rep.aM 108 56 w' w0.heap.size (Φ.ab a.T) a.T a.t (W.k2 l).1.ah∧Mod (Φ.ab a.T) w w'):=by
 have KS:=bZ aX.lt;have ab9:=VF aX.has;refine cx (n:=110) func119 Z Z Z ?_;refine fa Z Z λ dk bx bm fQ ag=> ?_;have dM:=(Mod.bN (Φ.ab a.T) w).trans (Mod.aP bm);have jd:=ag.lt;refine aT Z<|aF<|UI Z λ fT yW bD j' aj1=> ?_;have b7:=dM.trans (Mod.aP bD);have aja:=j1.of_nil aj1;refine aT Z<|aI<|aF<|aa (au kk Z)<| ?_;have ag:=ag.later bD;refine bA Z ag mh Z<|aa (dr underlying50 Z)<|vm Z<|aJ<|bT<| ?_;have aX:=aX.later (J bm bD);refine gi (λ cJ cu aV=>∃ k:Nat,cu= [(1, .slice A l.length c),(2, .pointer (a_ bx)),(4, .slice none 0 0),(5, .map (some yW)),(17, .slice a.T W.ah.length a.t),(18,γ (W.ah.length:Int)),(19,γ (k:Int))]∧cJ=W.ah.length - k∧Mod (Φ.ab a.T) w aV∧a8.rep.aM 108 56 aV w0.heap.size (Φ.ab a.T) a.T a.t (W.ah)∧aO aV bx (ae.cells a W) 52 (0,0)∧j1 aV yW (ig (W.ah.take k))∧(k≤W.ah.length)) _ _ ⟨0,Z,Z,b7,aX,ag,aja,by omega⟩ (eS Z Z Z) ?_;rintro B8 aDC s3 ⟨k,rfl,rfl,iV,aX,ag,hM,aj⟩;have KU:=bZ aX.lt;have yV:=ag.lt;have ax7:=hM.lt;refine aF<|fB Z Z<|aJ<|aI<| ?_;refine fH Z (λ v_=> ?_) (λ v_=> ?_)
 ·refine bE<|aI<|bT<|aF<|aa (bX k underlying50 kl Z Z (aX.has.bw (aZ k)) Z (by omega))<|aa (aB Z (Φ.aQ.jJ js (aX.has.cg (aZ k)) (cj (l:=W.ah) (u:=default) (by omega)) zZ kl))<|dn FQ Z λ uE tD dT ad8 ek=> ?_;have ke:=iV.trans (Mod.aP dT);refine c9 Z Z ek Z kl Z Z λ AQ jQ ek=> ?_;have jg:=ke.md jQ (λ q I=> .inr (by have:=aMZ.1 I;omega));refine aJ<| ?_;have hM:=(hM.later dT).mod jQ aY;refine U' yW (ig (W.ah.take k)) [(2,0),(3,0),(5,2),(7,3)] [0,1,2,3,4,5,6,7] (by kernel_rfl) (by kernel_rfl) ?_;refine rp Z Z (λ _=>jA Z) Z<|rp Z Z (λ _=>au ri Z) Z<|BJ Z Z (λ _ x=>aB Z ((ek.mod x.1 aY).par [γ ((W.ah.getD k default).spot.x),γ ((W.ah.getD k default).spot.y)] b2 bs Z)) Z<|BJ Z Z (λ _ x=>Oy (p:=(W.ah.getD k default).spot) (x.2 hM) (Pj (ab9 k)) Z Z) Z<|rp Z Z (λ _=>bad Z Z (ll ((by have κ:=OV (W.ah.take k) ((W.ah.getD k default).spot);(try rw [aM9] at κ);omega)))) Z<|Sn Z Z Z λ Hg f_ Q hK=>meC (p:=(W.ah.getD k default).spot) (hM.later f_) (Pj (ab9 k)) Z Z Z λ xr aLf wV Qp=>hK _ _ ⟨(oj.aP f_).trans ⟨wV,λ _=>Qp.map⟩, ?_⟩;have r4:=jg.trans (Mod.aP f_);have jW:=r4.md wV (λ q I=> .inr (by have:=aMZ.1 I;omega));have aDt:=Qp.map;refine rp Z Z (λ _=>ex Z Z) Z<|Sb Z Z Z λ xt ix Q hK=>R_ (Qp.later ix) Z Z Z λ xu ue Qm=>hK _ _ ?_;have nx:=jW.trans (Mod.aP ix);have k5:=nx.md ue (λ q I=> .inr (by have:=aMZ.1 I;omega));refine Si λ aMP P0=> ?_;have aC4:=k5.trans (Mod.aP P0);refine cl<|eR Z Z Z<| ?_;have aX:=((((((aX.later dT).mod jQ (c2 λ q I af=>by have:=KU q I;have:=KS q I;omega)).later f_).mod wV (c2 λ q I af=>by have:=KU q I;have:=KS q I;omega)).later ix).mod ue (c2 λ q I af=>by have:=KU q I;have:=KS q I;omega)).later P0;have ag:=((((((ag.later dT).mod jQ aY).later f_).mod wV aY).later ix).mod ue aY).later P0;have Qm:=Qm.later P0;exact eX ⟨k+1,Z,Z,aC4,aX,ag,(by rw [aw6 (by omega)];exact Qm),by omega⟩
 ·refine ej<|ei<|eU<|eh<|br<|aF<|aT Z<|aI<|aF<|aa (au kk Z)<|bA Z ag mh Z<|aa (dr underlying50 Z)<|vm Z<|aJ<|bT<| ?_;have mS:k=W.ah.length:=by omega
  subst mS;have XY:j1 s3 yW (ig W.ah):=by have h:=hM;rw [aOQ] at h;exact h
  refine gi (λ cJ cu aV=>∃ k:Nat,∃ T:List a8,∃ M:List Int,∃ xK:Option Addr,∃ Fv:Nat,cu= [(1, .slice A l.length c),(2, .pointer (a_ bx)),(4, .slice none 0 0),(5, .map (some yW)),(8, .slice xK M.length Fv),(33,γ (W.ah.length:Int)),(34,γ (k:Int))]∧cJ=W.ah.length - k∧Mod (Φ.ab a.T) w aV∧aO aV bx (ae.cells a W) 52 (0,0)∧j1 aV yW (ig T)∧a8.rep.aM 108 56 aV w0.heap.size (Φ.ab a.T) a.T a.t (T)∧bz.aM 3 8 aV w.heap.size (Φ.ab xK) xK Fv (M)∧(k≤W.ah.length)∧(iF W.field l W.ah k=(T,M))∧(T.length=W.ah.length)∧(M.length≤k)∧(∀ q∈Φ.ab a.T,q=bx→False)∧(∀ q∈Φ.ab a.T,q=yW→False)∧(∀ q∈Φ.ab xK,q=bx→False)∧(∀ q∈Φ.ab xK,q=yW→False)∧(∀ q∈Φ.ab xK,q∈Φ.ab a.T→False)) _ _ ⟨0,W.ah, [],none,0,Z,Z,iV,ag,XY,aX,(Φ.aM.nil _),by omega,rfl,rfl,by simp,(λ q I af=>by (have:=KU q I;have:=KS q I;omega)),(λ q I af=>by (have:=KU q I;have:=KS q I;omega)),(λ q I af=>by (simp [Φ.ab] at I)),(λ q I af=>by (simp [Φ.ab] at I)),(λ q I af=>by (simp [Φ.ab] at I))⟩ (eS Z Z Z) ?_;rintro Eg aDR EG ⟨k,T,M,xK,Fv,rfl,rfl,pR,ag,M2,dI,mM,aj,hS,SX,aGb,ou,p5,sy,mP,mQ⟩;have aKM:=ag.lt;have aKN:=M2.lt;have VN:=bZ dI.lt;have VO:=bZ mM.lt;have Ob:=VF dI.has;refine aF<|fB Z Z<|aJ<|aI<| ?_;refine fH Z (λ Jo=> ?_) (λ Jo=> ?_)
  ·refine bE<|aI<|bT<|aK Z<|aT Z<|aF<|aa (au kk Z)<|bA Z ag mh Z<|vm Z<|aa (bX k underlying50 kl Z Z (dI.has.bw (aZ k)) Z (by omega))<|dn apA Z λ PK Ys iT aIC lD=> ?_;have A_:=pR.trans (Mod.aP iT);have aKQ:=lD.lt;refine st (new:= [.pointer (some ⟨et a.T,jR a.T+k * 7,none⟩)]) Z Z lD Z aog Z Z Z λ V' qA lD=> ?_;have:=qA.size;have vd:=A_.md qA (λ q I=> .inr (by have:=aMZ.1 I;omega));refine aJ<|aK Z<|aa (Ko Z Z)<| ?_;have dI:=(dI.later iT).mod qA (bl VN);refine c0 aoh Z (av7 Ys k l A c a.T a.t T _ (ay.kq (Φ.c6).1 vd Gj) lD dI.has (by omega)) λ PN gC=> ?_;have:=gC.size;have qV:=vd.trans (Mod.aP gC);refine aT Z<|aI<|aK Z<|fB Z Z<|aJ<| ?_;refine fH Z (λ wb=> ?_) (λ wb=> ?_)
   ·refine ej<|ei<|eh<|eR Z Z Z<| ?_;have dW:=uw (ua iT qA) gC;have ag:=ag.mod dW aY;have M2:=M2.mod dW aY;have dI:=dI.later gC;have mM:=mM.mod dW (bl VO);exact eX ⟨k+1,T,M,xK,Fv,Z,Z,qV,ag,M2,dI,mM,by omega,G8 hS (azI wb),SX,by omega,ou,p5,sy,mP,mQ⟩
   ·obtain ⟨BS,TD⟩:=aqC wb;refine bE<|aI<| ?_;refine dw [(1,0),(2,0),(5,0),(10,0),(11,2)] [0,1,2,3,4,5,6,7,8,9,10,11,12,13,14,15,16,17,18] ?_;refine ax Z (λ _=>au p7 Z)<| ?_;have ag:=((ag.later iT).mod qA aY).later gC;refine cS Z (λ _ x=>aB Z ((ag.later x).par [γ W.field.wide,γ W.field.high, .slice a.P W.field.places.length a.p] hb gD Z))<| ?_;have lD:=lD.later gC;refine cP Z Z lD FU Z<|ax Z (λ _=>b3 Z)<|ax Z (λ _=>au ri Z)<| ?_;have dI:=dI.later gC;refine cS Z (λ _ x=>aB Z (Φ.aQ.part js ((dI.later x).has.cg (aZ k)) 3 (ds:= [γ ((T.getD k default).spot.x),γ ((T.getD k default).spot.y)]) (cj (l:=T) (u:=default) (by omega)) Z b2 bs))<|bn Z Z<|bn Z Z<|ax Z (λ _=>bX ((eo l (T.getD k default).id).toNat) underlying144 R8 Z Z ((ay.kq (Φ.c6).1 qV Gj).bw (aZ ((eo l (T.getD k default).id).toNat))) (by omega) (by omega))<|ax Z (λ _=>au aoi Z)<|cS Z (λ _ x=>aB Z (Φ.aQ.part abB ((ay.kq (Φ.c6).1 (qV.trans (Mod.aP x)) Gj).cg (aZ ((eo l (T.getD k default).id).toNat))) 1 (ds:= [γ ((l.getD ((eo l (T.getD k default).id).toNat) default).bg.x),γ ((l.getD ((eo l (T.getD k default).id).toNat) default).bg.y)]) (cj (l:=l) (u:=default) (by omega)) Z b2 bs))<|fW Z Z Z λ K9 gT Q hK=>ca ZS Z Z ((afw W.field ((T.getD k default).spot) ((l.getD ((eo l (T.getD k default).id).toNat) default).bg) _ _ _ (bL.kq (Φ.c6).1 (qV.trans (Mod.aP gT)) (λ _=>arF))).mono ?_);rintro e K_ ⟨aEh,aMY,rfl,xY,mI⟩;refine ⟨_,Z,hK _ _ ⟨J gT mI, ?_⟩⟩;have:=gT.size;have ve:=qV.trans (Mod.aP gT);have:=mI.size;have zf:=ve.trans (Mod.aP mI);have aeH:=dL xY.lt;have Oi:=xY.has;refine bn Z Z<|ax Z (λ _=>ex Z Z)<|ax Z (λ _=>ex Z Z)<|ax Z (λ _=>ex Z Z)<|ax Z (λ _=>eV Z)<|ax Z (λ _=>eV Z)<|ax Z (λ _=>eV Z)<|fn λ aBb zb=> ?_;have:=zb.size;have P7:=zf.trans (Mod.aP zb);refine br<|aI<|aK Z<|gN Z Z<|vm Z<|fS Z Z<|b9 Z (λ hc=>dr underlying49 (gt hc Z))<|b9 Z (λ hc=>blt (gt hc Z) Z)<|aa (gv Z Z Z Z)<|vm Z<|fS Z Z<|fS Z Z<| ?_;have xY:=xY.later zb;refine b9 Z (λ hc=>bX 1 underlying49 bs (gt hc Z) Z (xY.has.bw (aZ 1 (by (try simp only [cq] at hc);omega))) Z (by (try simp only [cq] at hc);omega))<|b9 Z (λ hc=>aB (gt hc Z) (Φ.aQ.jJ wh (xY.has.cg (aZ 1 (by (try simp only [cq] at hc);omega))) (cj (l:=cR W.field ((T.getD k default).spot) ((l.getD ((eo l (T.getD k default).id).toNat) default).bg)) (u:=default) (by (try simp only [cq] at hc);omega)) b2 bs))<| ?_;have M2:=((M2.later iT).mod qA aY).later (J gC (J gT (J mI zb)));refine b9 Z (λ hc=>Oy (p:=(cR W.field ((T.getD k default).spot) ((l.getD ((eo l (T.getD k default).id).toNat) default).bg)).getD 1 default) M2 (MF Oi 1) (gt hc Z) (gt hc Z))<|b9 Z (λ hc=>hO (gt hc Z) Z)<|aa (gv Z Z Z Z)<|aJ<| ?_;refine c1 Z (λ Js=> ?_) (λ Js=> ?_)
    ·simp only [cq] at Js;refine ej<|ei<|eh<|eR Z Z Z<| ?_;have lq:=(J gT (J mI zb));have ag:=ag.later lq;have dI:=dI.later lq;have mM:=((mM.later iT).mod qA (bl VO)).later (J gC (J gT (J mI zb)));exact eX ⟨k+1,T,M,xK,Fv,Z,Z,P7,ag,M2,dI,mM,by omega,G8 hS (azJ (by omega) Js),SX,by omega,ou,p5,sy,mP,mQ⟩
    ·simp only [cq] at Js;refine bE<|aI<| ?_;refine U' yW (ig T) [(1,0),(4,0),(5,0),(7,2),(9,3)] [0,1,2,3,4,5,6,7,8,9] (by kernel_rfl) (by kernel_rfl) ?_;refine rp Z Z (λ _=>jA Z) Z<| ?_;have lD:=lD.later (J gT (J mI zb));refine BJ Z Z (λ _ x=>aB Z ((lD.mod x.1 aY).one FU Z)) Z<|rp Z Z (λ _=>b3 Z) Z<|rp Z Z (λ _=>au ri Z) Z<| ?_;have dI:=dI.later (J gT (J mI zb));refine BJ Z Z (λ _ x=>aB Z (Φ.aQ.part js ((dI.mod x.1 (c2 p5)).has.cg (aZ k)) 3 (ds:= [γ ((T.getD k default).spot.x),γ ((T.getD k default).spot.y)]) (cj (l:=T) (u:=default) (by omega)) Z b2 bs)) Z<|BJ Z Z (λ _ x=>Oy (p:=(T.getD k default).spot) (x.2 M2) (Pj (Ob k)) Z Z) Z<|rp Z Z (λ _=>iM Z Z (ll ((by have κ:=OV T ((T.getD k default).spot);(try rw [aM9] at κ);omega)))) Z<|Sn Z Z Z λ aBc kx Q hK=>meC (p:=(T.getD k default).spot) (M2.later kx) (Pj (Ob k)) Z Z Z λ ahj aLd lQ Qn=>hK _ _ ⟨(oj.aP kx).trans ⟨lQ,λ _=>Qn.map⟩, ?_⟩;have:=kx.size;have WQ:=P7.trans (Mod.aP kx);have:=lQ.size;have Hr:=WQ.md lQ (λ q I=> .inr (by have:=aMZ.1 I;omega));have aDr:=Qn.map;refine rp Z Z (λ _=>ex Z Z) Z<|Sb Z Z Z λ VY fN Q hK=>R_ (Qn.later fN) Z Z Z λ VZ yO LD=>hK _ _ ?_;have:=fN.size;have EU:=Hr.trans (Mod.aP fN);have:=yO.size;have EV:=EU.md yO (λ q I=> .inr (by have:=aMZ.1 I;omega));refine Si λ aLC Cx=> ?_;have:=Cx.size;have aB6:=EV.trans (Mod.aP Cx);refine br<|aI<| ?_;refine dw [(0,0),(3,0),(6,3)] [0,1,2,3,4,5,6] ?_;have lD:=((((lD.later kx).mod lQ aY).later fN).mod yO aY).later Cx;refine cP Z Z lD FU Z<|bn Z Z<| ?_;have xY:=((((xY.later kx).mod lQ (bG aeH)).later fN).mod yO (bG aeH)).later Cx;refine ax Z (λ _=>bX 1 underlying49 bs Z Z (xY.has.bw (aZ 1)) Z (by omega))<|cS Z (λ _ x=>aB Z (Φ.aQ.jJ wh ((xY.later x).has.cg (aZ 1)) (cj (l:=cR W.field ((T.getD k default).spot) ((l.getD ((eo l (T.getD k default).id).toNat) default).bg)) (u:=default) (by omega)) b2 bs))<|ax Z (λ _=>b3 Z)<|ax Z (λ _=>au ri Z)<| ?_;have dI:=((((dI.later kx).mod lQ (c2 p5)).later fN).mod yO (c2 p5)).later Cx;refine dC Z Z Z λ aAR EN Q hK=>azy (q:=(T).getD k default) (q':=(⟨((T).getD k default).id,((T).getD k default).owner,((T).getD k default).kind,⟨((cR W.field ((T.getD k default).spot) ((l.getD ((eo l (T.getD k default).id).toNat) default).bg)).getD 1 default).x,((cR W.field ((T.getD k default).spot) ((l.getD ((eo l (T.getD k default).id).toNat) default).bg)).getD 1 default).y⟩,((T).getD k default).df,((T).getD k default).load⟩:a8)) (i:=k) (j:=3) (old:= [γ (((T).getD k default).id),γ (((T).getD k default).owner),γ (((T).getD k default).kind),γ (((T).getD k default).spot.x),γ (((T).getD k default).spot.y),γ (((T).getD k default).df),γ (((T).getD k default).load)]) (part:= [γ (((cR W.field ((T.getD k default).spot) ((l.getD ((eo l (T.getD k default).id).toNat) default).bg)).getD 1 default).x),γ (((cR W.field ((T.getD k default).spot) ((l.getD ((eo l (T.getD k default).id).toNat) default).bg)).getD 1 default).y)]) (dI.later EN) Φ.c6 (cj (l:=T) (u:=default) (by omega)) js Z Z Z Z Z Z (λ _=>⟨Z,(az1 (Ob k) (MF Oi 1))⟩) bs λ aAS GK zC=>hK _ _ ?_;have:=EN.size;have P3:=aB6.trans (Mod.aP EN);have:=GK.size;have Wu:=P3.md GK (λ q I=> .inl I);refine fn λ aLH xz=> ?_;have:=xz.size;have aCa:=Wu.trans (Mod.aP xz);refine br<|aI<| ?_;have LD:=((LD.later (J Cx EN)).mod GK (λ I=>p5 _ I rfl)).later xz;refine U' yW (rV (ig T) ((T.getD k default).spot) (((ig T) ((T.getD k default).spot)) - 1)) [(1,0),(4,0),(5,0),(7,2),(9,3)] [0,1,2,3,4,5,6,7,8,9] (by kernel_rfl) (by kernel_rfl) ?_;refine rp Z Z (λ _=>jA Z) Z<| ?_;have lD:=lD.later EN;have ano:∀ q∈Φ.ab a.T,q=Ys→False:=λ q I af=>by (have:=VN q I;omega)
     have lD:=(lD.mod GK (λ I=>ano _ I rfl)).later xz;refine BJ Z Z (λ _ x=>aB Z ((lD.mod x.1 aY).one FU Z)) Z<|rp Z Z (λ _=>b3 Z) Z<|rp Z Z (λ _=>au ri Z) Z<| ?_;have zC:=zC.later xz;refine BJ Z Z (λ _ x=>aB Z (Φ.aQ.part js ((zC.mod x.1 (c2 p5)).has.cg (aZ k (by rw [aNj];omega))) 3 (ds:= [γ (((T.getD k default).bg ((cR W.field (T.getD k default).spot (l.getD (eo l (T.getD k default).id).toNat default).bg).getD 1 default)).spot.x),γ (((T.getD k default).bg ((cR W.field (T.getD k default).spot (l.getD (eo l (T.getD k default).id).toNat default).bg).getD 1 default)).spot.y)]) (aNL (by omega)) Z b2 bs)) Z<|BJ Z Z (λ _ x=>Oy (p:=((T.getD k default).bg ((cR W.field (T.getD k default).spot (l.getD (eo l (T.getD k default).id).toNat default).bg).getD 1 default)).spot) (x.2 LD) (MF Oi 1) Z Z) Z<|rp Z Z (λ _=>bad Z Z (ll ((by have aC:=OV T ((T.getD k default).spot);have κ:=aAA (x:=((T.getD k default).spot)) (v:=(((ig T) ((T.getD k default).spot)) - 1)) (OV T) (by omega) (by omega) (((T.getD k default).bg ((cR W.field (T.getD k default).spot (l.getD (eo l (T.getD k default).id).toNat default).bg).getD 1 default)).spot);omega)))) Z<|Sn Z Z Z λ aAU Cy Q hK=>meC (p:=((T.getD k default).bg ((cR W.field (T.getD k default).spot (l.getD (eo l (T.getD k default).id).toNat default).bg).getD 1 default)).spot) (LD.later Cy) (MF Oi 1) Z Z Z λ ahl aLe D9 Qo=>hK _ _ ⟨(oj.aP Cy).trans ⟨D9,λ _=>Qo.map⟩, ?_⟩;have:=Cy.size;have Ww:=aCa.trans (Mod.aP Cy);have:=D9.size;have Ln:=Ww.md D9 (λ q I=> .inr (by have:=aMZ.1 I;omega));have aDs:=Qo.map;refine rp Z Z (λ _=>ex Z Z) Z<|Sb Z Z Z λ aAX EP Q hK=>R_ (Qo.later EP) Z Z Z λ aAY yP LF=>hK _ _ ?_;have:=EP.size;have Wz:=Ln.trans (Mod.aP EP);have:=yP.size;have WA:=Wz.md yP (λ q I=> .inr (by have:=aMZ.1 I;omega));have aKf:=LF.lt;refine Si λ aLR xA=> ?_;have:=xA.size;have aCh:=WA.trans (Mod.aP xA);refine br<|rg<|vm Z<| ?_;have lD:=((((lD.later Cy).mod D9 aY).later EP).mod yP aY).later xA;refine bA Z lD FU Z<|aa (b3 Z)<|aa (au FR Z)<| ?_;have zC:=((((zC.later Cy).mod D9 (c2 p5)).later EP).mod yP (c2 p5)).later xA;refine aa (aB Z (Φ.aQ.ox js (zC.has.cg (aZ k (by rw [aNj];omega))) 0 (aNL (by omega)) Z a6))<|b_ (e:= 3) (cs:= [γ (((T.getD k default).bg ((cR W.field (T.getD k default).spot (l.getD (eo l (T.getD k default).id).toNat default).bg).getD 1 default)).id)]) Z (λ _=>by kernel_rfl) Z λ aLT aEy kM aH8 Xl=> ?_;have aCj:=aCh.trans (Mod.aP kM);have aKh:=Xl.lt;have mM:=((((((((((((mM.later iT).mod qA (bl VO)).later (J gC (J gT (J mI (J zb kx))))).mod lQ (c2 mP)).later fN).mod yO (c2 mP)).later (J Cx EN)).mod GK mQ).later (J xz Cy)).mod D9 (c2 mP)).later EP).mod yP (c2 mP)).later (J xA kM);refine ap aj6 Φ.c6 mM (aO.fy (R:=bz) (by_:=8) (q:=((T.getD k default).bg ((cR W.field (T.getD k default).spot (l.getD (eo l (T.getD k default).id).toNat default).bg).getD 1 default)).id) Xl ⟨Z,cI.2 (cI.1 (Ob k).1)⟩ (by decide)) Z Z (by simp only [aM1,aM5];omega) (by simp only [aM1,aM5];omega) (by omega) Z λ aLW aiA amk OH aks St aJh=> ?_;have aCl:=aCj.md OH (λ q I=> .inr ((λ q I=>aNm (by omega) (mM.lt q I).1) q I));refine va Z<|nl<|cl<|eR Z Z Z<| ?_;have SU:=G9 hS (azK (by omega) Js);have ag:=(((((((((((ag.later (J gT (J mI (J zb kx)))).mod lQ aY).later fN).mod yO aY).later (J Cx EN)).mod GK (λ I=>ou _ I rfl)).later (J xz Cy)).mod D9 aY).later EP).mod yP aY).later (J xA kM)).mod OH (λ I=>sy _ I rfl);have LF:=(LF.later (J xA kM)).mod OH (λ I=>mP _ I rfl);have zC:=(zC.later kM).mod OH (gg mQ);exact eX ⟨k+1,(T).set k ((⟨((T).getD k default).id,((T).getD k default).owner,((T).getD k default).kind,⟨((cR W.field ((T.getD k default).spot) ((l.getD ((eo l (T.getD k default).id).toNat) default).bg)).getD 1 default).x,((cR W.field ((T.getD k default).spot) ((l.getD ((eo l (T.getD k default).id).toNat) default).bg)).getD 1 default).y⟩,((T).getD k default).df,((T).getD k default).load⟩:a8)),M++ [((T.getD k default).bg ((cR W.field (T.getD k default).spot (l.getD (eo l (T.getD k default).id).toNat default).bg).getD 1 default)).id],aiA,amk,Z,Z,aCl,ag,(by rw [aw4 (by omega)];exact LF),zC,aks,by omega,SU,by rw [aNj];exact SX,by rw [aM6,aPl];omega,ou,p5,(gz St sy),(gz St mP),(oT St mQ VN)⟩
  ·refine ej<|ei<|eU<|eh<|br<|aK Z<|bH Z<|cZ Z Z<| ?_;have mS:k=W.ah.length:=by omega
   subst mS;have aR:(W.k2 l).2=M:=by show (iF _ _ _ _).2=M;rw [hS]
   have a1:(W.k2 l).1.ah=T:=by show (iF _ _ _ _).1=T;rw [hS]
   exact ⟨xK,Fv,by rw [aR];rfl,by rw [aR];exact mM,by rw [a1];exact dI,pR⟩
end
section
variable {k:Bool}
open Go.Proofs.YthlpmldmhakhaaaGreatDoor.qX
def n2 (e:Int):List PanicEntry:= [{v:= .iface 66 (.agg #[γ e]),recovered:=false}]
theorem aBD {A:Option Addr} {c lo s q:Nat} (h:q∈Φ.ab (ez A c lo s)):q∈Φ.ab A:=by
 unfold ez at h;split at h
 ·exact h
 ·cases A with
  | none=>exact h
  | some a =>
   have e:(a.add (lo * s)).block=a.block:=by unfold Addr.add;split<;>rfl
   have h:q∈ [(a.add (lo * s)).block]:=h;rw [e] at h;exact h
structure k7 (w:World):Prop where
 m:∃ m:Int,w.cell? ⟨0,0,none⟩=some (γ m)
 p:Lib.TabIs prog w "internal/strconv.uint64pow10" .u64 Lib.pow10Tab
 s:∃ v,w.cell? ⟨6,0,none⟩=some v∧(v= .nilIface∨∃ te En,v= .iface te En)
 r:∃ v,w.cell? ⟨7,0,none⟩=some v∧(v= .nilIface∨∃ te En,v= .iface te En)
theorem Rr {w w':World} {p:Addr} {v:Value} (h:w.cell? p=some v) (x:Ext w w'):w'.cell? p=some v:=(x.cell (show p.block<w.heap.size from Lib.lt_of_cell h)).trans h
theorem k7.keep {w w':World} (h:k7 w) (x:Ext w w'):k7 w' :=
 ⟨by obtain ⟨m,h⟩:=h.m;exact ⟨m,Rr h x⟩,Lib.tabBelow_of_tabIs h.p _ x,by obtain ⟨v,h,k⟩:=h.s;exact ⟨v,Rr h x,k⟩,by obtain ⟨v,h,k⟩:=h.r;exact ⟨v,Rr h x,k⟩⟩
def fu (aA:Nat) (w:World):Prop:=∃ w0,k7 w0∧Ext w0 w∧w0.heap.size≤aA
section
variable {aA vJ b c:Nat} {w w':World} {A:Option Addr} {S:List Nat} {l r:List ByteArray}
theorem fu.of (h:k7 w):fu w.heap.size w:=⟨w,h,Ext.bN w,aNk _⟩
theorem fu.dK (h:fu aA w):k7 w:=by obtain ⟨w0,h,x,_⟩:=h;exact h.keep x
theorem fu.later (h:fu aA w) (x:Ext w w'):fu aA w':=by obtain ⟨w0,h,y,k⟩:=h;exact ⟨w0,h,J y x,k⟩
theorem fu.mod (h:fu aA w) (m:Mod S w w') (hS:∀ q∈S,aA≤q):fu aA w':=by obtain ⟨w0,h,y,k⟩:=h;exact ⟨w0,h,Ext.mod y m λ q I=>aNm k (hS q I),k⟩
theorem fu.up (h:fu aA w) (k:aA≤vJ):fu vJ w:=by obtain ⟨w0,h,y,j⟩:=h;exact ⟨w0,h,y,aNm j k⟩
structure ki (w:World) (aA b:Nat) (A:Option Addr) (c:Nat) (l:List ByteArray):Prop where
 B:aO w b [.slice A l.length c] 57 (0,0)
 H:e_.aQ 16 w A c l
 lt:∀ q∈Φ.ab A,q<aA
 z:aA≤b
theorem ki.en (h:ki w aA b A c l):aO w b [.slice A l.length c] 57 (0,0):=h.B
theorem ki.later (h:ki w aA b A c l) (x:Ext w w'):ki w' aA b A c l:=⟨h.B.later x,h.H.keep x,h.lt,h.z⟩
theorem ki.mod (h:ki w aA b A c l) (m:Mod S w w') (hS:∀ q∈S,aA≤q∧q≠b):ki w' aA b A c l :=
 ⟨h.B.mod m λ af=>(hS b af).2 rfl,h.H.kq pF.1 m λ _ q I hs=>by have:=h.lt q I;have:=(hS q hs).1;omega,h.lt,h.z⟩
theorem azU {s:ByteArray} (h:e_.aQ 16 w A c (s::r)):e_.aQ 16 w (ez A c 1 1) (c - 1) r:=by
 have:=(show e_.aQ 16 w (ez A c 1 1) (c - 1) _ from h.sub 1 (s::r).length (by simp) (aNk _));simpa using this
end
theorem Bz (e:Int) (w:World):
  Calls prog 44 #[γ e] w (λ r w'=>(e≠0∧r= .panicked (n2 e)∧Ext w w')∨(e=0∧r= .returned (.tuple #[])∧Ext w w')):=by
 refine cx (n:=7) func44 Z Z Z ?_;refine aK Z<|gN Z Z<|aJ<| ?_;refine oq Z (λ po=> ?_) (λ po=> ?_)
 ·refine rg<|vm Z<|aa (v:= .agg #[γ e]) (hC Z)<|aa (GR (λ w=>by kernel_rfl) Z)<|afC Z<|gm<| ?_;exact .inl ⟨po,Z,(Ext.bN w)⟩
 ·refine fZ<|ne<|dS .nil<| ?_;exact .inr ⟨by omega,rfl,(Ext.bN w)⟩
theorem RB (e:Int) (w:World) (he:e≠0):Calls prog 44 #[γ e] w (λ r w'=>r= .panicked (n2 e)∧Ext w w'):=
 (Bz e w).mono λ r w' h=>by rcases h with ⟨_,κ,τ⟩ | ⟨h,_⟩;exact ⟨κ,τ⟩;exact absurd h he
theorem IJ (k:Bool) (w:World):
  Calls prog 41 #[.bool k] w (λ r w'=>(k=false∧r= .panicked (n2 10)∧Ext w w')∨(k=true∧r= .returned (.tuple #[])∧Ext w w')):=by
 refine cx (n:=5) func41 Z Z Z ?_;refine aK Z<|aa (dD Z)<|aJ<| ?_;refine c1 Z (λ po=> ?_) (λ po=> ?_)
 ·refine rg<|Fs yk Z ((RB 10 _ (by decide)).mono ?_);rintro e xq ⟨rfl,bm⟩;refine cF ?_;refine gm<| ?_;exact .inl ⟨by simpa using po,rfl,bm⟩
 ·refine fZ<|ne<|dS .nil<| ?_;exact .inr ⟨by simpa using po,rfl,(Ext.bN w)⟩
theorem ZA (w:World) (aj:k=false):Calls prog 41 #[.bool k] w (λ r w'=>r= .panicked (n2 10)∧Ext w w'):=
 (IJ k w).mono λ r w' h=>by rcases h with ⟨_,κ,τ⟩ | ⟨h,_⟩;exact ⟨κ,τ⟩;subst aj;cases h
theorem anM (w:World) (aj:k=true):Calls prog 41 #[.bool k] w (λ r w'=>r= .returned (.tuple #[])∧Ext w w'):=
 (IJ k w).mono λ r w' h=>by rcases h with ⟨h,_⟩ | ⟨_,κ,τ⟩;subst aj;cases h;exact ⟨κ,τ⟩
theorem ae8 (aA b:Nat) (A:Option Addr) (c:Nat) (w:World) (aE:aO w b [.slice A 0 c] 57 (0,0)) (tN:e_.aQ 16 w A c ([]:List ByteArray)) (bB:∀ q∈Φ.ab A,q<aA) (bo:aA≤b):
  Calls prog 40 #[.pointer (a_ b)] w (λ e w'=>e= .panicked (n2 10)∧Mod [b] w w'):=by
 refine cx (n:=22) func40 Z Z Z ?_;refine aF<|aT Z<|aK Z<|aa (b3 Z)<|bA Z aE FJ Z<|aa (dr underlying57 Z)<|aa (hO Z Z)<|Fs FK Z ((ZA _ (by simp)).mono ?_);rintro e dk ⟨rfl,gH⟩;refine cF ?_;have dM:=(Mod.bN [b] w).trans (Mod.aP gH);refine dR<|gm<| ?_;exact ⟨Z,dM⟩
theorem afa (aA b:Nat) (A:Option Addr) (c:Nat) (s:ByteArray) (r:List ByteArray) (w:World) (aE:aO w b [.slice A (s::r).length c] 57 (0,0)) (tN:e_.aQ 16 w A c (s::r)) (bB:∀ q∈Φ.ab A,q<aA) (bo:aA≤b):
  Calls prog 40 #[.pointer (a_ b)] w (λ e w'=>∃ bS cn,e= .returned (.string s)∧ki w' aA b bS cn r∧Mod [b] w w'):=by
 refine cx (n:=22) func40 Z Z Z ?_;refine aF<|aT Z<|aK Z<|aa (b3 Z)<|bA Z aE FJ Z<|aa (dr underlying57 Z)<|aa (hO Z Z)<|c0 FK Z (anM _ (by simp)) λ dk gH=> ?_;have dM:=(Mod.bN [b] w).trans (Mod.aP gH);refine aJ<|aK Z<|aa (b3 Z)<| ?_;have aE:=aE.later gH;refine bA Z aE FJ Z<|aa (bX 0 underlying57 zX Z Z ((tN.kq (pF).1 dM (λ _ q I h=>by have:=bB q I;have:=aMZ.1 h;omega)).bw (aZ 0 (by simp))) Z (by simp))<|aa (aB Z (Φ.aQ.dj DI ((tN.kq (pF).1 dM (λ _ q I h=>by have:=bB q I;have:=aMZ.1 h;omega)).cg (aZ 0 (by simp))) (Z:(s::r)[0]? =some s) Z Dh))<|aT Z<|aK Z<|vm Z<|aa (b3 Z)<|bA Z aE FJ Z<|aa (agf 1 underlying57 zX Z Z Z (by simp))<|aa (b3 Z)<|st (new:= [.slice (ez A c 1 1) ((s::r).length - 1) (c - 1)]) Z Z aE Z aoj Z Z Z λ aho OM aE=> ?_;have Hv:=dM.md OM k0;refine aJ<|aK Z<|bH Z<|cZ Z Z<| ?_;exact ⟨_,_,Z,⟨aE,azU (tN.kq pF.1 Hv (λ _ q I h=>by have:=bB q I;have:=aMZ.1 h;omega)),λ q I=>bB q (aBD I),bo⟩,Hv⟩
theorem ZB (aA b:Nat) (A:Option Addr) (c:Nat) (ws:List ByteArray) (w:World) (h:ki w aA b A c ws):
  Calls prog 40 #[.pointer (a_ b)] w (λ e w'=>(ws= []∧e= .panicked (n2 10)∧Mod [b] w w')∨∃ s r bS cn,ws=s::r∧e= .returned (.string s)∧ki w' aA b bS cn r∧Mod [b] w w'):=by
 cases ws with
 | nil=>exact (ae8 aA b A c w h.B h.H h.lt h.z).mono λ e w' k=> .inl ⟨rfl,k.1,k.2⟩
 | cons s r=>exact (afa aA b A c s r w h.B h.H h.lt h.z).mono λ e w' k=>by obtain ⟨bS,cn,dv,ey,jx⟩:=k;exact .inr ⟨s,r,bS,cn,Z,dv,ey,jx⟩
end
section
open Go.RowKit Go.Lib Go.Sort Go.Proofs.YthlpmldmhakhaaaGreatDoor.qX
def sP (n:Int):ByteArray:=az (Lib.itoa n)
theorem JX {n:Int} (h:dB n):(sP n).size≤21:=by
 have h:=cI.1 h;have:=Lib.itoa_length_le n h.1 h.2;unfold sP az;rw [aN3];simpa using this
theorem acG (n:Int) (w:World) (hn:dB n) (ar:k7 w):Calls prog 31 #[γ n] w λ e w'=>e= .returned (.string (sP n))∧Ext w w' :=
 (strconv_Itoa n (cI.1 hn).1 (cI.1 hn).2 w ar.p).mono λ e w' h=>⟨h.1,by obtain ⟨k,os,h⟩:=h.2;rw [h];exact Lib.below_grow _ w (aNk _) k os⟩
theorem axv (s:ByteArray) (u:Nat) (hs:s.size≤140737488351232) (h:Lib.parseUintB 32 s.data.toList= .ok u) (w:World):
  Calls prog 83 #[.string s,γ 10,γ 32] w λ e w'=>e= .returned (.tuple #[.int .u64 u, .nilIface])∧Ext w w' :=
 (strconv_ParseUint_10_at32_ok s (by omega) u h w).mono λ e w' k=>⟨k.1,by
  rcases k.2 with h | h
  ·rw [h];exact Ext.bN w
  ·rw [h];exact Lib.bytesWorld_below _ _ _⟩
theorem axu (s:ByteArray) (hs:s.size≤140737488351232) (h:∀ u,Lib.parseUintB 32 s.data.toList≠ .ok u) (w:World) (ar:k7 w):
  Calls prog 83 #[.string s,γ 10,γ 32] w λ e w'=>∃ m te p,e= .returned (.tuple #[.int .u64 m, .iface te p])∧Ext w w':=by
 cases hp:Lib.parseUintB 32 s.data.toList with
 | ok u=>exact absurd hp (h u)
 | range =>
  obtain ⟨v,κ,τ⟩:=ar.r;exact (strconv_ParseUint_10_at32_range s (by omega) hp v w κ τ).mono λ e w' k=>by obtain ⟨N,dv,_,_,ey⟩:=k;exact ⟨_,_,_,dv,ey⟩
 | _ =>
  obtain ⟨v,κ,τ⟩:=ar.s;exact (strconv_ParseUint_10_at32_syntax s (by omega) hp v w κ τ).mono λ e w' k=>by obtain ⟨N,dv,_,_,ey⟩:=k;exact ⟨_,_,_,dv,ey⟩
theorem afh {s:ByteArray} {u:Nat} (h:xa s=some u):u<1000000000:=by
 unfold xa at h;split at h
 ·split at h
  ·rename_i κ
   cases h
   have τ:(Lib.decDigits u).length≤9:=by
    have:=κ.1;rw [← κ.2,aN3] at this;simpa [az] using this
   rw [aQn] at τ;exact aOE (Lib.lt_pow_nDigits u) (aNm (Nat.pow_le_pow_right (by decide) τ) (by decide))
  ·cases h
 ·cases h
theorem ap5 (u:Nat) (hu:u<18446744073709551616) (w:World) (ar:k7 w):
  Calls prog 111 #[.int .u64 u,γ 10] w λ e w'=>e= .returned (.string ⟨(Lib.decDigits u).toArray⟩)∧Ext w w':=by
 have GA:=ar.p;by_cases hs:u<100
 ·have hc:IntKind.i64.wrap (u:Int)=u:=by rw [IntKind.wrap_i64];omega
  have af:decide ((u:Int)<100)=true:=aNp (by omega);clear ar GA;go_enter func111,ntmps111;go_wp2_with fail
  go_at_call 76
  refine (internal_strconv_small u hs _).mono ?_;rintro e w' ⟨rfl,rfl⟩;go_wp2
  go_ret;exact ⟨Z,Ext.bN _⟩
 ·have af:decide ((u:Int)<100)=false:=aNu (by omega);have aGY:Lib.nDigits u≤20:=by have:=Lib.numDigits_eq u (by omega) hu;split at this<;>omega
  have Ti:prog.arrayLen 128 =24:=by simp [Program.arrayLen,underlying128]
  have yF:∀ W,(Instr.sliceAt 128 (.pointer (some ⟨w.heap.size,0,none⟩)) none (some (γ (Lib.nDigits u:Int))) none).run prog W= .ok (.slice (some ⟨w.heap.size,0,none⟩) (Lib.nDigits u) 24) W:=λ W=>by
   rw [run_sliceAt_array_h W 128 ⟨w.heap.size,0,none⟩ (by simp [Program.arrayLen,Program.elem,underlying128]) .i64 (Lib.nDigits u:Int) (by omega) (by rw [Ti];omega),Ti]
   go_simp
  clear Ti;have SJ:Holds (λ (b:UInt8)=>Value.int .u8 (b.toNat:Int)) (w.alloc (.cells Lib.zeros24 128)) w.heap.size 0 (Array.replicate (Lib.nDigits u) (0:UInt8)):=λ j aw=>by
   have N6:j<Lib.nDigits u:=by simpa using aw
   refine ⟨?_,World.frozen?_alloc_new _ _ _ _⟩;rw [World.cell?_alloc_new,Lib.zeros24_at _ (by omega),getElem!_pos _ j aw];simp
  have abO:=internal_strconv_formatBase10 w.heap.size 0 24 u (Array.replicate (Lib.nDigits u) 0) (w.alloc (.cells Lib.zeros24 128)) SJ (by rw [aOy];exact Lib.lt_pow_nDigits u) hu (by rw [aOy];omega);rw [aOy] at abO;have ajE:=aNc SJ;clear SJ;go_enter func111,ntmps111;have ajH:=λ w h=>internal_strconv_numDigits u (by omega) hu w h;clear hu;go_wp2_with fail
  go_at_call 77
  refine (ajH _ (Lib.tabIs_alloc GA _)).mono ?_;rintro e w' ⟨rfl,rfl⟩;go_wp2_with fail
  go_at_call 78
  refine abO.mono ?_;rintro e w' ⟨rfl,k,v',BA,rfl,hF⟩;have hcv:(convert 30 9 (.slice (some ⟨w.heap.size,0,none⟩) (Lib.nDigits u) 24)).run prog ((putRow (λ (b:UInt8)=>Value.int .u8 (b.toNat:Int)) (w.alloc (.cells Lib.zeros24 128)) w.heap.size 0 BA).drewN k)= .ok (.string ⟨(Lib.decDigits u).toArray⟩) ((putRow (λ (b:UInt8)=>Value.int .u8 (b.toNat:Int)) (w.alloc (.cells Lib.zeros24 128)) w.heap.size 0 BA).drewN k):=by
   have h:=aP5 (P:=prog) ((putRow (λ (b:UInt8)=>Value.int .u8 (b.toNat:Int)) (w.alloc (.cells Lib.zeros24 128)) w.heap.size 0 BA).drewN k) 30 9 5 ⟨w.heap.size,0,none⟩ 24 (Lib.decDigits u) underlying30 underlying5 underlying9 (λ j aw=>by
    rw [Lib.row_is_numeral hF j aw,Lib.add_plain,World.cell?_drewN];exact cell?_putRow (λ (b:UInt8)=>Value.int .u8 (b.toNat:Int)) _ w.heap.size 0 _ BA ajE.out (by rw [hF.size,aOy]) j (by rw [hF.size];rw [aQn] at aw;exact aw))
   rw [aQn] at h;exact h
  go_wp2
  go_ret;refine ⟨Z, ?_⟩;rw [alloc_eq_grow];obtain ⟨axj,_,e⟩:=putRow_grow_new (λ (b:UInt8)=>Value.int .u8 (b.toNat:Int)) w #[.cells Lib.zeros24 128] w.heap.size 0 BA (aNk _);rw [e];exact Lib.below_grow _ w (aNk _) k axj
theorem ap4 (u:Nat) (hu:u<18446744073709551616) (w:World) (ar:k7 w):
  Calls prog 84 #[.int .u64 u,γ 10] w λ e w'=>e= .returned (.string (az (Lib.decDigits u)))∧Ext w w':=by
 refine cx (n:=8) func84 Z Z Z ?_;refine aF<|aT Z<|aK Z<|vm Z<|ca (b6 func111 (by kernel_rfl) (by kernel_rfl)) Z Z ((ap5 u hu w ar).mono ?_);rintro e w' ⟨rfl,x⟩;refine cF ?_;refine bH Z<|cZ Z Z<| ?_;exact ⟨Z,x⟩
end
section
variable {i n:Nat} {ws:List ByteArray}
open Go.Proofs.YthlpmldmhakhaaaGreatDoor.qX
section
variable {P:Program} {E:List (Nat×Value)} {w w':World} {d:Option Nat} {ty:TypeId} {pos:String} {aW:Array Edge} {g:Option (Nat×Bool)} {x y:Operand} {t u:TypeId}
theorem Yk {b:BinOp} {v1 v2 r:Value} (κ:∀ w,(eqGuard b t x y v1 v2).run P w= .ok () w) (τ:∀ w,(binOp b t v1 v2).run P w= .ok r w) (hx:ev E x=some v1) (aH:ev E y=some v2):cG P E ⟨d, .binOp b t x y u,ty,pos,aW,g⟩ w r w:=λ n a ha=>by
 simp only [execOp,ha.ev hx,ha.ev aH,aNh,κ,τ,aNb,aNl]
theorem alH (hx:ev E x=some .nilIface):cG prog E ⟨d, .binOp .eql 34 x (.const .nilIface) u,ty,pos,aW,g⟩ w (.bool true) w :=
 Yk (λ w=>by cases x<;>rfl) (λ w=>by kernel_rfl) hx rfl
theorem alI {te:TypeId} {p:Value} (hx:ev E x=some (.iface te p)):cG prog E ⟨d, .binOp .eql 34 x (.const .nilIface) u,ty,pos,aW,g⟩ w (.bool false) w :=
 Yk (λ w=>by cases x<;>rfl) (λ w=>by kernel_rfl) hx rfl
end
theorem afs:∀ (l:List UInt8) (M acc u:Nat),acc≤M→Lib.parseUintM M acc l= .ok u→u≤M
 | [],M,acc,u,h,e=>by unfold Lib.parseUintM at e;cases e;exact h
 | c::r,M,acc,u,h,e=>by
  unfold Lib.parseUintM at e;split at e
  ·split at e
   ·cases e
   ·split at e
    ·cases e
    ·exact afs r M _ u (by omega) e
  ·cases e
theorem axt {l:List UInt8} {u:Nat} (h:Lib.parseUintB 32 l= .ok u):u<18446744073709551616:=by
 unfold Lib.parseUintB at h;split at h
 ·cases h
 ·have:=afs l (2 ^ 32 - 1) 0 u (by decide) h;omega
theorem UM (s:ByteArray) (r:List ByteArray):AB (s::r)=(xa s).map λ u=>(u,r):=rfl
theorem arn {w:World} {A:Option Addr} {c:Nat} {s:ByteArray} {r:List ByteArray} (h:e_.aQ 16 w A c (s::r)):s.size≤140737488351232:=by
 obtain ⟨_,_,_,_,ess,g,_⟩:=h;cases ess with
 | nil=>cases g
 | cons e es=>exact (show _∧_ from g.1).2
section
variable {aA b c:Nat} {A:Option Addr} {s:ByteArray} {r:List ByteArray} {w:World}
theorem awG (h:ki w aA b A c []):Calls prog 40 #[.pointer (a_ b)] w (λ e w'=>e= .panicked (n2 10)∧Mod [b] w w'):=ae8 aA b A c w h.B h.H h.lt h.z
theorem ae7 (h:ki w aA b A c (s::r)):Calls prog 40 #[.pointer (a_ b)] w (λ e w'=>∃ bS cn,e= .returned (.string s)∧ki w' aA b bS cn r∧Mod [b] w w'):=afa aA b A c s r w h.B h.H h.lt h.z
end
theorem awQ {s:ByteArray} {u:Nat} (hp:Lib.parseUintB 32 s.data.toList= .ok u) (h:(decide ((s.size:Int)≤9) && decide (az (Lib.decDigits u)=s))=false):xa s=none:=by
 unfold xa;rw [hp];show (if _ then _ else _)=_;rw [aM4];intro k;have dv:(s.size:Int)≤9:=by have:=k.1;omega
 simp [dv,k.2] at h
theorem afg {s:ByteArray} {u:Nat} (hp:Lib.parseUintB 32 s.data.toList= .ok u) (h:(decide ((s.size:Int)≤9) && decide (az (Lib.decDigits u)=s))=true):xa s=some u:=by
 unfold xa;rw [hp];show (if _ then _ else _)=_;rw [aNa,aM8,aM8] at h;exact aNd ⟨by omega,h.2⟩
theorem awT (aA b:Nat) (A:Option Addr) (c:Nat) (w:World) (hK:ki w aA b A c []) (ar:fu aA w):
  Calls prog 67 #[.pointer (a_ b)] w (λ e w'=>e= .panicked (n2 10)∧Mod [b] w w'):=by
 refine cx (n:=29) func67 Z Z Z ?_;refine aF<|aT Z<|aK Z<|Fs IN Z ((awG hK).mono ?_);rintro e xq ⟨rfl,Uw⟩;refine cF ?_;have kQ:=(Mod.bN [b] w).md Uw k0;refine dR<|gm<| ?_;exact ⟨Z,kQ⟩
theorem awS (aA b:Nat) (A:Option Addr) (c:Nat) (s:ByteArray) (r:List ByteArray) (w:World) (hK:ki w aA b A c (s::r)) (ar:fu aA w) (hs:s.size≤140737488351232) (hp:∀ u,Lib.parseUintB 32 s.data.toList≠ .ok u):
  Calls prog 67 #[.pointer (a_ b)] w (λ e w'=>e= .panicked (n2 10)∧Mod [b] w w'):=by
 have afU:=hK.z;refine cx (n:=29) func67 Z Z Z ?_;refine aF<|aT Z<|aK Z<|ca IN Z Z ((ae7 hK).mono ?_);rintro e PD ⟨cc,bd,rfl,LH,wQ⟩;refine cF ?_;have A5:=(Mod.bN [b] w).md wQ k0;refine aT Z<|aK Z<| ?_;have ar:=ar.mod wQ (λ q I=>by have:=I;simp only [aMZ] at this;omega);refine ca ZT Z Z ((axu s hs hp _ ar.dK).mono ?_);rintro e Cv ⟨OB,te,aJ1,rfl,kO⟩;refine cF ?_;have lB:=A5.trans (Mod.aP kO);refine vm Z<|b0 Z Z<|b0 Z Z<|va Z<|aT Z<|aK Z<|aa (alI Z)<|vm Z<|y2 Z<|y2 Z<|y2 Z<|aa (oV Z Z)<|vm Z<|y2 Z<|y2 Z<|y2 Z<|y2 Z<|aa (oV Z Z)<|Fs FK Z ((ZA _ Z).mono ?_);rintro e fT ⟨rfl,ea⟩;refine cF ?_;have b7:=lB.trans (Mod.aP ea);refine dR<|gm<| ?_;exact ⟨Z,b7⟩
theorem awU (aA b:Nat) (A:Option Addr) (c:Nat) (s:ByteArray) (r:List ByteArray) (w:World) (hK:ki w aA b A c (s::r)) (ar:fu aA w) (hs:s.size≤140737488351232) (u:Nat) (hu:u<18446744073709551616) (hp:Lib.parseUintB 32 s.data.toList= .ok u):
  Calls prog 67 #[.pointer (a_ b)] w (λ e w'=>(xa s=none∧e= .panicked (n2 10)∧Mod [b] w w')∨xa s=some u∧∃ bS cn,e= .returned (γ (u:Int))∧ki w' aA b bS cn r∧Mod [b] w w'):=by
 have afU:=hK.z;refine cx (n:=29) func67 Z Z Z ?_;refine aF<|aT Z<|aK Z<|ca IN Z Z ((ae7 hK).mono ?_);rintro e PD ⟨cc,bd,rfl,LH,wQ⟩;refine cF ?_;have A5:=(Mod.bN [b] w).md wQ k0;refine aT Z<|aK Z<|c0 ZT Z (axv s u hs hp _) λ Cv kO=> ?_;have lB:=A5.trans (Mod.aP kO);refine vm Z<|b0 Z Z<|b0 Z Z<|va Z<|aT Z<|aK Z<|aa (alH Z)<|vm Z<|il Z Z Z<|vm Z<|il Z Z Z<|aa (B5 underlying9 Z (by omega))<|il Z Z Z<|aa (ble Z Z)<|aa (nY Z Z)<|vm Z<|fS Z Z<| ?_;have ar:=(ar.mod wQ (λ q I=>by have:=I;simp only [aMZ] at this;omega)).later kO;refine s0 Z aok (λ hc=>fO (gt hc Z) (fO Z Z)) (λ hc=>ap4 u hu _ ar.dK) λ fT ea=> ?_;have b7:=lB.trans (Mod.aP ea);refine fS Z Z<|b9 Z (λ hc=>kj underlying9 (gt hc Z) (gt hc Z))<|aa (eZ Z Z Z Z)<|hD FK Z Z ((IJ ((decide (((s).size:Int)≤9)) && (decide ((az (Lib.decDigits u))=s))) _).mono ?_);rintro e uD (⟨hc,rfl,gB⟩ | ⟨hc,rfl,eA⟩)
 ·refine .inl ⟨_,Z, ?_⟩;have jV:=b7.trans (Mod.aP gB);refine dR<|gm<| ?_;exact .inl ⟨awQ hp hc,Z,jV⟩
 refine .inr ⟨_,Z, ?_⟩;have jV:=b7.trans (Mod.aP eA);have aHj:=afh (afg hp hc);refine aJ<|aK Z<|aa (MK (r:=(u:Int)) (λ _=>by kernel_rfl) fP Z)<|bH Z<|cZ Z Z<| ?_;have LH:=LH.later (J kO (J ea eA));exact .inr ⟨afg hp hc,cc,bd,Z,LH,jV⟩
theorem awR (aA b:Nat) (A:Option Addr) (c:Nat) (ws:List ByteArray) (w:World) (hK:ki w aA b A c ws) (ar:fu aA w):
  Calls prog 67 #[.pointer (a_ b)] w (λ e w'=>(AB ws=none∧e= .panicked (n2 10)∧Mod [b] w w')∨∃ u r bS cn,AB ws=some (u,r)∧u<1000000000∧e= .returned (γ (u:Int))∧ki w' aA b bS cn r∧Mod [b] w w'):=by
 cases ws with
 | nil=>exact (awT aA b A c w hK ar).mono λ e w' k=> .inl ⟨rfl,k⟩
 | cons s r =>
  have hs:=arn hK.H;cases hp:Lib.parseUintB 32 s.data.toList with
  | ok u =>
   refine (awU aA b A c s r w hK ar hs u (axt hp) hp).mono λ e w' k=> ?_;rcases k with ⟨dv,ey,jx⟩ | ⟨dv,bS,cn,ey,jx,at1⟩
   ·exact .inl ⟨by rw [UM,dv];rfl,ey,jx⟩
   ·exact .inr ⟨u,r,bS,cn,by rw [UM,dv];rfl,afh dv,ey,jx,at1⟩
  | _ =>
   have hn:AB (s::r)=none:=by rw [UM];unfold xa;rw [hp];rfl
   exact (awS aA b A c s r w hK ar hs (λ u e=>by rw [hp] at e;cases e)).mono λ e w' k=> .inl ⟨hn,k⟩
theorem take_set {T:List Int} {u:Int} (h:i<T.length):(T.set i u).take (i+1)=T.take i++ [u]:=by
 rw [aRC,aRp (by omega),aNL h];rfl
theorem awY {r:List ByteArray} {T:List Int} (h:ec n ws=(ec (n - i) r).map (T.take i++ ·)) (ak:i<n) (hn:AB r=none):ec n ws=none:=by
 rw [show n - i=(n - (i+1))+1 by omega] at h;exact awX h hn
theorem aw0 {u:Nat} {r r':List ByteArray} {T:List Int} (h:ec n ws=(ec (n - i) r).map (T.take i++ ·)) (aX:T.length=n) (ak:i<n) (hn:AB r=some (u,r')):ec n ws=(ec (n - (i+1)) r').map ((T.set i (u:Int)).take (i+1)++ ·):=by
 rw [show n - i=(n - (i+1))+1 by omega] at h;rw [take_set (by omega)];exact awZ h hn
theorem awV {r:List ByteArray} {T:List Int} (h:ec n ws=(ec (n - i) r).map (T.take i++ ·)) (ak:n≤i) (hr:r≠ []):ec n ws=none:=by
 rw [h,show n - i=0 by omega];unfold ec;rw [aM4 hr];rfl
theorem awW {r:List ByteArray} {T:List Int} (h:ec n ws=(ec (n - i) r).map (T.take i++ ·)) (ak:n≤i) (aX:T.length=n) (hr:r= []):ec n ws=some T:=by
 rw [h,show n - i=0 by omega];unfold ec;rw [aNd hr];show some (T.take i++ [])=_;rw [aNA,aNr (by omega)]
theorem rO (aA b:Nat) (A:Option Addr) (c:Nat) (ws:List ByteArray) (n:Nat) (w:World) (hK:ki w aA b A c ws) (ar:fu aA w) (hn:n≤4):
  Calls prog 46 #[.pointer (a_ b),γ (n:Int)] w (λ e w'=>(ec n ws=none∧e= .panicked (n2 10)∧Mod [b] w w')∨∃ l bS cn,ec n ws=some l∧e= .returned (.slice bS l.length cn)∧bz.aM 3 8 w' w.heap.size (Φ.ab bS) bS cn l∧Mod [b] w w'):=by
 have afU:=hK.z;have uq:=hK.B.lt;refine cx (n:=27) func46 Z Z Z ?_;refine aF<|aT Z<|aK Z<|D4 (R:=bz) (by_:=8) (B:=w.heap.size) (c:=n) (zv:=(γ 0)) (q:=0) Φ.rm underlying46 wG Z Z (λ j u h=>AE j u h) (λ _=>⟨Z,cI.2 (by decide)⟩) Z Z Z (by omega) (by omega) (by omega) λ dk bx bm fQ L_=> ?_;have dM:=(Mod.bN [b] w).trans (Mod.aP bm);have aeG:∀ q∈Φ.ab (a_ bx),bx≤q:=λ q I=>aOT (aMZ.1 I).symm;refine aT Z<|aI<|aK Z<|aa (dr underlying46 Z)<|vm Z<|aJ<|bT<| ?_;have ar:=ar.later bm;have hK:=hK.later bm;refine gi (λ cJ cu aV=>∃ i:Nat,∃ r:List ByteArray,∃ E4:Option Addr,∃ Fx:Nat,∃ T:List Int,cu= [(0, .pointer (a_ b)),(4, .slice none 0 0),(5, .slice (a_ bx) n n),(10,γ (n:Int)),(11,γ (i:Int))]∧cJ=n - i∧Mod [b] w aV∧fu aA aV∧bz.aM 3 8 aV w.heap.size (Φ.ab (a_ bx)) (a_ bx) n (T)∧ki aV aA b E4 Fx r∧(T.length=n)∧(i≤n)∧(ec n ws=(ec (n - i) r).map (T.take i++ ·))) _ _ ⟨0,ws,A,c,List.replicate n 0,Z,Z,dM,ar,L_,hK,by simp,by omega,by simp⟩ (eS Z Z Z) ?_;rintro aeN aDA uG ⟨i,r,E4,Fx,T,rfl,rfl,jh,ar,j2,bO,aX,ak,kV⟩;refine aF<|fB Z Z<|aJ<|aI<| ?_;refine fH Z (λ bK=> ?_) (λ bK=> ?_)
 ·refine bE<|aI<|bT<|aK Z<|aT Z<|rg<|vm Z<|vm Z<|vm Z<|hD aol Z Z ((awR aA b _ _ r _ bO ar).mono ?_);rintro e s3 (⟨TP,rfl,b4⟩ | ⟨agZ,ayq,WS,YL,TP,aHi,rfl,HS,gw⟩)
  ·refine .inl ⟨_,Z, ?_⟩;have iV:=jh.md b4 k0;refine kt<|dR<|GY<|kt<|dR<|gm<| ?_;exact .inl ⟨awY kV (by omega) TP,Z,iV⟩
  refine .inr ⟨_,Z, ?_⟩;have iV:=jh.md gw k0;have j2:=j2.mod gw (bG aeG);refine aa (bX i underlying46 cr Z Z (j2.has.bw (aZ i)) Z (by omega))<|so (q':=(agZ:Int)) (j:=0) (i:=i) j2 Φ.c6 (cj (l:=T) (u:=0) (by omega)) Z Z Z Z (λ _ cs h=>by have xf:=(show _∧_ from h).2;obtain rfl:=dA h;exact ⟨rfl,cI.2 (by omega)⟩) Z Z cr λ rW mo akt=> ?_;have hZ:=iV.md mo (λ q I=> .inr ((λ q I=>(j2.lt q I).1) q I));refine nl<|cl<|eR Z Z Z<| ?_;have ar:=(ar.mod gw (λ q I=>by have:=I;simp only [aMZ] at this;omega)).mod mo (λ q I=>by have:=(λ q I=>(j2.lt q I).1) q I;omega);have HS:=HS.mod mo (λ q I=>by have:=aeG q I;omega);exact eX ⟨i+1,ayq,WS,YL,(T.set i (agZ:Int)),Z,Z,hZ,ar,akt,HS,by rw [aNj];exact aX,by omega,aw0 kV aX (by omega) TP⟩
 ·refine ej<|ei<|eU<|eh<|br<|aK Z<|aa (b3 Z)<|aa (aB Z (bO.en.one FJ Z))<|aa (dr underlying57 Z)<|aa (beq Z Z)<|hD FK Z Z ((IJ (((((r).length:Nat):Int))== 0) _).mono ?_);rintro e y6 (⟨hc,rfl,jf⟩ | ⟨hc,rfl,fC⟩)
  ·refine .inl ⟨_,Z, ?_⟩;have l4:=jh.trans (Mod.aP jf);refine dR<|gm<| ?_;exact .inl ⟨awV kV (by omega) (by simpa using hc),Z,l4⟩
  refine .inr ⟨_,Z, ?_⟩;have l4:=jh.trans (Mod.aP fC);refine aJ<|aK Z<|bH Z<|cZ Z Z<| ?_;have j2:=j2.later fC;exact .inr ⟨T,some ⟨bx,0,none⟩,n,awW kV (by omega) aX (by simpa using hc),by rw [aX];rfl,j2,l4⟩
end
def aDW (W:ae) (p:a8→Bool) (w:World) (e:Ending) (w':World):Prop:=e= .returned (.tuple #[.int .i64 (aBq W p), .bool (ahL W p), .int .i64 W.a7])∧Below w.heap.size w w'
section
variable {w:World} {aA:Nat} {a:ae.cW} {l:List dU}
theorem bt.awr {aN:World} {W:ae} {l:List a8} (h:bt w aA a W) (m:Mod (Φ.ab a.T) w aN) (aX:a8.rep.aM 108 56 aN aA (Φ.ab a.T) a.T a.t l):bt aN aA a {W with ah:=l}:=by
 have hn:=(aNP.1 h.apart).2.2;have d:∀ q∈Φ.ab a.P++Φ.ab a.B++Φ.ab a.S++Φ.ab a.M,q∉Φ.ab a.T:=λ q I aD=>hn q I q aD rfl;exact ⟨h.P.mod m (λ q I=>d q (by simp [I])),h.B.mod m (λ q I=>d q (by simp [I])),h.S.mod m (λ q I=>d q (by simp [I])),h.M.mod m (λ q I=>d q (by simp [I])),aX,h.apart,h.nums⟩
theorem ap8 {W:ae} (h:bt w aA a W):∀ q∈Φ.ab a.P,q∉Φ.ab a.T:=λ q I aD=>(aNP.1 h.apart).2.2 q (by simp [I]) q aD rfl
theorem aww (w0:World) (a:ae.cW) (W:ae) (A:Option Addr) (c:Nat) (l:List dU) (w:World) (mV:bt w w0.heap.size a W) (ay:dU.rep.aQ 24 w A c l) (Gj:0<l.length→∀ q∈Φ.ab A,q∉Φ.ab a.T) (BZ:W.ah.length≤100000):
  Calls prog 119 #[.agg (ae.cells a W).toArray, .slice A l.length c] w (λ e w'=>∃ bS cn,e= .returned (.slice bS (W.k2 l).2.length cn)∧bz.aM 3 8 w' w.heap.size (Φ.ab bS) bS cn (W.k2 l).2∧bt w' w0.heap.size a (W.k2 l).1∧Mod (Φ.ab a.T) w w'):=by
 refine (azO w0 a W A c l w mV.P.has mV.T (ap8 mV) ay Gj BZ).mono ?_;rintro e w' ⟨bS,cn,rfl,κ,τ,aq⟩;exact ⟨bS,cn,Z,κ,mV.awr aq τ,aq⟩
theorem agL (W:ae) (l:List dU):(W.k2 l).1.ah.length=W.ah.length:=(KM _).1
theorem azP (a:ae.cW) (W:ae) (l:List dU):ae.cells a W=ae.cells a (W.k2 l).1:=by
 unfold ae.cells;rw [agL];rfl
def qC (W:ae) (l:List dU):Int:=if W.a7≠0 then W.a7 else if 200<l.length then 2 else 0
noncomputable def oR (W:ae) (l:List dU):ae:=if qC W l≠0 then ae.zero else (W.k2 l).1
noncomputable def rL (W:ae) (l:List dU):List Int:=if qC W l≠0 then [] else (W.k2 l).2
theorem aeW {W:ae} (h:¬ W.a7=0):qC W l=W.a7∧oR W l=ae.zero∧rL W l= []:=by
 have e:qC W l=W.a7:=by unfold qC;rw [aNd h]
 unfold oR rL;rw [e,aNd h,aNd h];exact ⟨Z,Z,Z⟩
theorem aeX {W:ae} (h:W.a7=0) (ay:(200:Int)<(l.length:Int)):qC W l=2∧oR W l=ae.zero∧rL W l= []:=by
 have e:qC W l=2:=by unfold qC;rw [aM4 (by omega),aNd (by omega)]
 unfold oR rL;rw [e];exact ⟨Z,Z,Z⟩
theorem Km {W:ae} (h:W.a7=0) (ay:(l.length:Int)≤200):qC W l=0∧oR W l=(W.k2 l).1∧rL W l=(W.k2 l).2:=by
 have e:qC W l=0:=by unfold qC;rw [aM4 (by omega),aM4 (by omega)]
 unfold oR rL;rw [e];exact ⟨Z,Z,Z⟩
noncomputable def af0 (g:dU):Nat→ae→Nat
 | 0,_=>0
 | n+1,W=>if (W.k2 [g]).2.length=0 then 0 else af0 g n (W.k2 [g]).1+1
noncomputable def af1 (g:dU):Nat→ae→ae
 | 0,W=>W
 | n+1,W=>if (W.k2 [g]).2.length=0 then (W.k2 [g]).1 else af1 g n (W.k2 [g]).1
def afZ (W:ae) (id n:Int):Int:=if W.a7≠0 then W.a7 else if n<0∨200<n then 1 else if ahL W (gL id)=false then 7 else 0
noncomputable def aK6 (W:ae) (id:Int) (bg:ai) (n:Int):ae:=if afZ W id n≠0 then ae.zero else af1 ⟨id,⟨bg.x,bg.y⟩⟩ n.toNat W
noncomputable def aK5 (W:ae) (id:Int) (bg:ai) (n:Int):Nat:=if afZ W id n≠0 then 0 else af0 ⟨id,⟨bg.x,bg.y⟩⟩ n.toNat W
theorem awt (a:ae.cW) (W:ae) (w:World) (b8:ae.Has w a W):
  Calls prog 118 #[.agg ((ae.cells a W).toArray)] w (λ e w'=>∃ a':ae.cW,e= .returned (.agg (ae.cells a' W).toArray)∧bt w' w.heap.size a' W∧Ext w w'):=by
 refine cx (n:=26) func118 Z Z Z ?_;refine fa Z Z λ dk bx bm fQ ag=> ?_;have jd:=ag.lt;refine dn p8 Z λ fT dJ bD j' aG=> ?_;have:=bD.size;have b7:=J bm bD;have qG:=aG.lt;refine aJ<|aF<|aa (au p7 Z)<|aa (au tK Z)<| ?_;have ag:=ag.later bD;refine bA Z ag fI Z<|ca Dq Z Z ((ye _ _ W.field.places _ (b8.P.keep b7)).mono ?_);rintro e AO ⟨zg,Bs,rfl,vw,asA,hy⟩;refine cF ?_;have:=hy.size;have nt:=J b7 hy;have pJ:=bZ vw.lt;have qw:=dL vw.lt;refine aa (au p7 Z)<|aa (au tK Z)<| ?_;have ag:=ag.later hy;refine fM Z Z ag Z yn Z Z λ rW mo ag=> ?_;have:=mo.size;have hZ:=Ext.mod nt mo bF;refine aJ<|aI<| ?_;refine dw [(1,0),(2,2),(4,0),(5,2),(7,3),(9,3)] [0,1,3,4,2,6,5,7,8,9] ?_;refine ax Z (λ _=>au sD Z)<|cP Z Z ag yo Z<|ax Z (λ _=>au tL Z)<|cP Z Z ag fI Z<|fW Z Z Z λ y5 dT Q hK=>ca R5 Z Z ((MG _ _ W.bj _ (b8.B.keep (J hZ dT))).mono ?_);rintro e K3 ⟨Qb,Ro,rfl,vx,asB,lY⟩;refine ⟨_,Z,hK _ _ ⟨J dT lY, ?_⟩⟩;have:=dT.size;have lA:=J hZ dT;have:=lY.size;have s_:=J lA lY;have y1:=bZ vx.lt;have sQ:=dL vx.lt;refine ax Z (λ _=>au sD Z)<|fW Z Z Z λ Ct fp Q hK=>ca Dq Z Z ((ye _ _ W.bh _ (b8.S.keep (J s_ fp))).mono ?_);rintro e s4 ⟨Qd,Rp,rfl,vy,asC,iw⟩;refine ⟨_,Z,hK _ _ ⟨J fp iw, ?_⟩⟩;have:=fp.size;have oa:=J s_ fp;have:=iw.size;have k4:=J oa iw;have KV:=bZ vy.lt;have lp:=dL vy.lt;have ag:=ag.later (J dT (J lY (J fp iw)));refine dC Z Z Z λ ED fD Q hK=>fM Z Z (ag.later fD) Z R6 Z Z λ xt sS ag=>hK _ _ ?_;have:=fD.size;have o7:=J k4 fD;have:=sS.size;have nx:=Ext.mod o7 sS bF;refine ax Z (λ _=>au tL Z)<|dC Z Z Z λ EE hJ Q hK=>fM Z Z (ag.later hJ) Z yn Z Z λ EF gj ag=>hK _ _ ?_;have:=hJ.size;have tj:=J nx hJ;have:=gj.size;have l7:=Ext.mod tj gj bF;refine fn λ uF fq=> ?_;have:=fq.size;have jX:=J l7 fq;refine br<|aI<| ?_;refine dw [(1,0),(2,2),(4,0),(5,2),(7,3),(9,3)] [0,1,3,4,2,6,5,7,8,9] ?_;refine ax Z (λ _=>au FT Z)<| ?_;have ag:=ag.later fq;refine cP Z Z ag fI Z<|ax Z (λ _=>au kk Z)<|cP Z Z ag mh Z<|fW Z Z Z λ PG gY Q hK=>ca Dq Z Z ((ye _ _ W.bY _ (b8.M.keep (J jX gY))).mono ?_);rintro e K6 ⟨Qf,Ft,rfl,vz,asD,o5⟩;refine ⟨_,Z,hK _ _ ⟨J gY o5, ?_⟩⟩;have:=gY.size;have A9:=J jX gY;have:=o5.size;have r5:=J A9 o5;have VL:=bZ vz.lt;have sR:=dL vz.lt;refine ax Z (λ _=>au FT Z)<|fW Z Z Z λ PJ iR Q hK=>ca R7 Z Z ((MH _ _ W.ah _ (b8.T.keep (J r5 iR))).mono ?_);rintro e PM ⟨Qh,MD,rfl,zy,asE,fc⟩;refine ⟨_,Z,hK _ _ ⟨J iR fc, ?_⟩⟩;have:=iR.size;have u':=J r5 iR;have EZ:=J u' fc;have qx:=dL zy.lt;have ag:=ag.later (J gY (J o5 (J iR fc)));refine dC Z Z Z λ ahw o6 Q hK=>fM Z Z (ag.later o6) Z yn Z Z λ EI kG ag=>hK _ _ ?_;have Lt:=J EZ o6;have jY:=Ext.mod Lt kG bF;refine ax Z (λ _=>au kk Z)<|dC Z Z Z λ K9 gT Q hK=>fM Z Z (ag.later gT) Z IW Z Z λ EJ qB ag=>hK _ _ ?_;have ve:=J jY gT;have kz:=Ext.mod ve qB bF;refine fn λ PO jH=> ?_;have vg:=J kz jH;refine br<|aF<| ?_;have ag:=ag.later jH;refine aa (aB Z (ag.all fg cQ))<| ?_;have aG:=((((((((((aG.later hy).mod mo aY).later (J dT (J lY (J fp (J iw fD))))).mod sS aY).later hJ).mod gj aY).later (J fq (J gY (J o5 (J iR (J fc o6)))))).mod kG aY).later gT).mod qB aY).later jH;refine c9 Z Z aG Z cQ Z Z λ ahA mq aG=> ?_;have Lv:=Ext.mod vg mq bF;refine tZ<|dS (.cell Z (aG.all fg cQ) .nil)<| ?_;have vw:=((((((((((vw.mod mo (bG qw)).later (J dT (J lY (J fp (J iw fD))))).mod sS (bG qw)).later hJ).mod gj (bG qw)).later (J fq (J gY (J o5 (J iR (J fc o6)))))).mod kG (bG qw)).later gT).mod qB (bG qw)).later jH).mod mq (bG qw);have vx:=(((((((((vx.later (J fp (J iw fD))).mod sS (bG sQ)).later hJ).mod gj (bG sQ)).later (J fq (J gY (J o5 (J iR (J fc o6)))))).mod kG (bG sQ)).later gT).mod qB (bG sQ)).later jH).mod mq (bG sQ);have vy:=(((((((((vy.later fD).mod sS (bG lp)).later hJ).mod gj (bG lp)).later (J fq (J gY (J o5 (J iR (J fc o6)))))).mod kG (bG lp)).later gT).mod qB (bG lp)).later jH).mod mq (bG lp);have vz:=(((((vz.later (J iR (J fc o6))).mod kG (bG sR)).later gT).mod qB (bG sR)).later jH).mod mq (bG sR);have zy:=(((((zy.later o6).mod kG (bG qx)).later gT).mod qB (bG qx)).later jH).mod mq (bG qx);have hR:=bt.UP (aA:=w.heap.size) (vw.down (by omega)) (vx.down (by omega)) (vy.down (by omega)) (vz.down (by omega)) (zy.down (by omega)) (λ q κ τ=>by exfalso;(have:=sQ q κ;(have:=pJ q τ;omega))) (λ q κ τ=>by exfalso;(have:=lp q κ;(have:=pJ q τ;omega))) (λ q κ τ=>by exfalso;(have:=lp q κ;(have:=y1 q τ;omega))) (λ q κ τ=>by exfalso;(have:=sR q κ;(have:=pJ q τ;omega))) (λ q κ τ=>by exfalso;(have:=sR q κ;(have:=y1 q τ;omega))) (λ q κ τ=>by exfalso;(have:=sR q κ;(have:=KV q τ;omega))) (λ q κ τ=>by exfalso;(have:=qx q κ;(have:=pJ q τ;omega))) (λ q κ τ=>by exfalso;(have:=qx q κ;(have:=y1 q τ;omega))) (λ q κ τ=>by exfalso;(have:=qx q κ;(have:=KV q τ;omega))) (λ q κ τ=>by exfalso;(have:=qx q κ;(have:=VL q τ;omega))) b8.nums;exact ⟨⟨zg,Qb,Qd,Qf,Qh,Bs,Ro,Rp,Ft,MD⟩,Z,hR,Lv⟩
theorem awv (a:ae.cW) (W:ae) (A:Option Addr) (c:Nat) (l:List dU) (w:World) (b8:ae.Has w a W) (ay:dU.rep.aQ 24 w A c l):
  Calls prog 88 #[.agg ((ae.cells a W).toArray), .slice A l.length c] w (λ e w'=>∃ a' bS cn,e= .returned (.tuple #[.agg (ae.cells a' (oR W l)).toArray, .slice bS (rL W l).length cn,γ (qC W l)])∧bt w' w.heap.size a' (oR W l)∧bz.aM 3 8 w' w.heap.size (Φ.ab bS) bS cn (rL W l)∧(∀ q∈Φ.ab bS,q∉bt.cA a')∧Ext w w'):=by
 refine cx (n:=26) func88 Z Z Z ?_;refine fa Z Z λ dk bx bm fQ ag=> ?_;have jd:=ag.lt;refine dn p8 Z λ fT dJ bD j' aG=> ?_;have b7:=J bm bD;have qG:=aG.lt;refine va Z<|aT Z<|aI<|aF<| ?_;have ag:=ag.later bD;refine aa (aB Z (ag.all fg cQ))<|c0 FP Z (Fu a W _ (b8.keep b7)) λ hX gp=> ?_;have:=gp.size;have cY:=J b7 gp;refine aT Z<|aK Z<|gN Z Z<|aJ<| ?_;refine oq Z (λ mi=> ?_) (λ mi=> ?_)
 ·refine aF<|aa (v:= .agg #[γ 0,γ 0, .slice none 0 0, .slice none 0 0, .slice none 0 0, .slice none 0 0, .slice none 0 0,γ 0,γ 0]) (hC Z)<|vm Z<| ?_;have aG:=aG.later gp;refine c9 Z Z aG Z cQ Z Z λ qN oO aG=> ?_;have l3:=Ext.mod cY oO bF;refine va Z<|bH Z<|cU<|dS (.cell Z (aG.all fg cQ) (.tmp Z (.tmp Z .nil)))<| ?_;obtain ⟨aR,a1,cL⟩:=aeW (l:=l) mi;exact ⟨⟨none,none,none,none,none,0,0,0,0,0⟩,none,0,by rw [aR,a1,cL];rfl,by rw [a1];exact bt.zero _ _,by rw [cL];exact Φ.aM.nil _,λ q I=>by simp [Φ.ab] at I,l3⟩
 ·have ar:=Good.um mi;have BZ:=ar.dD;refine bE<|aI<|aK Z<|aa (dr underlying144 Z)<|aa (hO Z Z)<|aJ<| ?_;refine fH Z (λ v_=> ?_) (λ v_=> ?_)
  ·refine aF<|aa (v:= .agg #[γ 0,γ 0, .slice none 0 0, .slice none 0 0, .slice none 0 0, .slice none 0 0, .slice none 0 0,γ 0,γ 0]) (hC Z)<| ?_;have aG:=aG.later gp;refine c9 Z Z aG Z cQ Z Z λ uE B9 aG=> ?_;have ke:=Ext.mod cY B9 bF;refine va Z<|bH Z<|cU<|dS (.cell Z (aG.all fg cQ) (.tmp Z (.tmp Z .nil)))<| ?_;obtain ⟨aR,a1,cL⟩:=aeX (l:=l) mi (by omega);exact ⟨⟨none,none,none,none,none,0,0,0,0,0⟩,none,0,by rw [aR,a1,cL];rfl,by rw [a1];exact bt.zero _ _,by rw [cL];exact Φ.aM.nil _,λ q I=>by simp [Φ.ab] at I,ke⟩
  ·refine bE<|aF<| ?_;have ag:=ag.later gp;refine aa (aB Z (ag.all fg cQ))<|ca aom Z Z ((awt a W _ (b8.keep cY)).mono ?_);rintro e AQ ⟨a28,rfl,HZ,eL⟩;refine cF ?_;have:=eL.size;have jg:=J cY eL;have VJ:=bZ HZ.lt;have GI:=dL HZ.lt;have ag:=ag.later eL;refine st Z Z ag Z cQ Z Z Z λ Ct iP ag=> ?_;have:=iP.size;have oa:=Ext.mod jg iP bF;refine aJ<|aF<|aa (aB Z (ag.all fg cQ))<|vm Z<| ?_;have HZ:=HZ.mod iP (bG GI);refine ca aon Z Z ((aww _ a28 W _ _ l _ HZ (ay.keep oa) (λ aC q I af=>by have κ:=ay.avL (by decide) aC q I;have τ:=GI q (ph af);omega) (by omega)).mono ?_);rintro e V4 ⟨ain,al8,rfl,LU,QF,Ec⟩;refine cF ?_;have CH:=Ext.mod oa Ec (λ q I=>by have rq:=GI q (ph I);omega);rw [azP a28 W l] at ag;have aeD:=dL LU.lt;refine aT Z<|aF<| ?_;have yi:∀ q∈Φ.ab a28.T,q=bx→False:=λ q I af=>by (have:=GI q (ph I);omega)
   have ag:=ag.mod Ec (λ I=>yi _ I rfl);refine aa (aB Z (ag.all fg cQ))<|vm Z<| ?_;have aG:=(aG.later (J gp eL)).mod iP aY;have yj:∀ q∈Φ.ab a28.T,q=dJ→False:=λ q I af=>by (have:=GI q (ph I);omega)
   have aG:=aG.mod Ec (λ I=>yj _ I rfl);refine st Z Z aG Z cQ Z Z Z λ PE wX aG=> ?_;have A7:=Ext.mod CH wX bF;refine va Z<|bH Z<|dS (.cell Z (aG.all fg cQ) (.tmp Z (.tmp Z .nil)))<| ?_;have QF:=QF.mod wX (bG GI);have LU:=LU.mod wX (bG aeD);obtain ⟨aR,a1,cL⟩:=Km (l:=l) mi (by omega);exact ⟨a28,ain,al8,by rw [aR,a1,cL];rfl,by rw [a1];exact QF.down (by omega),by rw [cL];exact LU.down (by omega),λ q I hf=>by (have:=aeD q I;(have:=VJ q hf;omega)),A7⟩
end
end Go.Proofs.YthlpmldmhakhaaaGreatDoor
