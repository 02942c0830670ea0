import Derived.Test.YthlpmldmhakhaaaGreatDoorShelf
import Derived.Lib.AppendIntMem
import Derived.Lib.ItoaLen
set_option linter.unusedVariables false
set_option linter.unusedSimpArgs false
set_option maxRecDepth 100000
set_option maxHeartbeats 4000000
open Go.RowKit
namespace Go.Proofs.YthlpmldmhakhaaaGreatDoor
open Tryz
abbrev aNv:=@List.filter_append
abbrev aNA:=@Go.Lib.size_eq
abbrev aN1:=@List.length_filter_le
abbrev aOk:=@List.take_length
abbrev aOC:=@List.length_take_le
abbrev aPd:=@Classical.byContradiction
abbrev aPR:=@Go.Lib.decDigits_length
abbrev aP0:=@List.foldl_append
section
variable {l:List eM} {k:Nat} {v:Int} {b:eM}
theorem ajj:(prog.info? 4).map (λ i=>(i.zero,i.size,i.bytes))=some (some (.bool false),1,1):=by kernel_rfl
def Ms (f:au) (x y:a8):Bool:=if (x.owner == y.owner || decide (UH x.kind<far x.spot y.spot))=true then false else B2 f x.spot y.spot
def dE (l:List a8):List (Int×Int):=(List.range l.length).map λ i=>((l.getD i default).id,(i:Int))
theorem asV {l:List a8} (h:k<l.length):dE (l.take (k+1))=dE (l.take k)++ [((l.getD k default).id,(k:Int))]:=by
 have aR:(l.take (k+1)).length=k+1:=by rw [aME];omega
 have a6:(l.take k).length=k:=by rw [aME];omega
 unfold dE;rw [aR,a6,aNG,aM0];congr 1
 ·refine aPN λ i ak=> ?_;have ak:=aM8.1 ak;simp only [aMv,aNe];rw [aMI (by omega),aMI ak]
 ·simp only [aNc,aNP,aMv,aNe];rw [aMI (by omega)]
theorem abZ {l:List a8} {p:Int×Int} (h:p∈dE l):∃ i,i<l.length∧p=((l.getD i default).id,(i:Int)):=by
 obtain ⟨i,ak,rfl⟩:=aMT.1 h;exact ⟨i,aM8.1 ak,Z⟩
theorem apW {l:List (Int×Int)} {k:Int} (h:cN l k=some v):(k,v)∈l:=by
 unfold cN at h;cases hf:l.find? (λ p=>p.1 == k) with
 | none=>rw [hf] at h;exact nomatch h
 | some p =>
  rw [hf] at h;injection h with h
  have κ:=aPb hf;have τ:=aPs hf;have aq:p.1=k:=by simpa using τ
  rw [← aq,← h];exact κ
theorem apX {l:List (Int×Int)} {k:Int} (h:∀ p∈l,p.1≠k):cN l k=none:=by
 unfold cN;rw [aNQ.2 λ p hp=>by simpa using h p hp];rfl
theorem ae0 {W:ae} {x:Int} (h:cN (dE W.ah) x=some v):∃ i,i<W.ah.length∧v=(i:Int)∧(W.ah.getD i default).id=x:=by
 obtain ⟨i,ak,he⟩:=abZ (apW h);injection he with κ τ
 exact ⟨i,ak,τ,κ.symm⟩
theorem aw4 {W:ae} (av:Good W) (x:Int) (h:(cN (dE W.ah) x).isSome=true):((cN (dE W.ah) x).getD 0).toNat<W.ah.length∧0≤(cN (dE W.ah) x).getD 0:=by
 cases aT:cN (dE W.ah) x with
 | none=>rw [aT] at h;exact nomatch h
 | some v =>
  obtain ⟨i,ak,hv,_⟩:=ae0 aT;show v.toNat<_∧0≤v;omega
theorem aw7 (W:ae) (x:Int):0≤(cN (dE W.ah) x).getD 0:=by
 cases aT:cN (dE W.ah) x with
 | none=>exact aNS _
 | some v=>obtain ⟨i,ak,hv,_⟩:=ae0 aT;show 0≤v;omega
theorem Good.asW {W:ae} (av:Good W) {i j:Nat} (kU:i<j) (aw:j<W.ah.length):(W.ah.getD i default).id<(W.ah.getD j default).id:=by
 induction j with
 | zero=>omega
 | succ j bu =>
  obtain ⟨t,aC⟩:=jm aw;have κ:=(av.ids (j+1) t aC).1;have τ:W.i' (j+1)=(W.ah.getD j default).id:=by
   unfold ae.i';simp
  have aR:W.ah.getD (j+1) default=t:=by rw [aMv,aC];rfl
  rw [aR];rcases aPi.1 kU with h | rfl
  ·have:=bu h (by omega);omega
  ·omega
theorem aw6 {W:ae} (av:Good W) (aj:k<W.ah.length):cN (dE (W.ah.take k)) (W.ah.getD k default).id=none:=by
 refine apX λ p hp=> ?_;obtain ⟨i,ak,rfl⟩:=abZ hp;rw [aME] at ak;have κ:=av.asW (i:=i) (j:=k) (by omega) aj;have τ:(W.ah.take k).getD i default=W.ah.getD i default:=by
  simp only [aMv,aNe];rw [aMI (by omega)]
 show ((W.ah.take k).getD i default).id≠_;rw [τ];omega
theorem Good.av0 {W:ae} (av:Good W) (i:Nat): -1000≤(W.ah.getD i default).spot.x∧(W.ah.getD i default).spot.x≤1000∧ -1000≤(W.ah.getD i default).spot.y∧(W.ah.getD i default).spot.y≤1000:=by
 rw [aMv];cases aC:W.ah[i]? with
 | none=>exact ⟨by decide,by decide,by decide,by decide⟩
 | some t =>
  obtain ⟨i1,i2,i3,i4,i5,i6⟩:=au.idx av.field (au.jn (av.ah i t aC).ground);obtain ⟨uK,qJ,sS,sT,_,_⟩:=au.g_ av.field;show -1000≤t.spot.x∧t.spot.x≤1000∧ -1000≤t.spot.y∧t.spot.y≤1000;omega
def Mh (W:ae) (s:List Bool×List Int) (b:eM):Bool :=
 (((!(cN (dE W.ah) b.bf).isSome || !(cN (dE W.ah) b.j_).isSome) || s.1.getD ((cN (dE W.ah) b.bf).getD 0).toNat false) || !Ms W.field (W.ah.getD ((cN (dE W.ah) b.bf).getD 0).toNat default) (W.ah.getD ((cN (dE W.ah) b.j_).getD 0).toNat default))
def zw (W:ae) (s:List Bool×List Int) (b:eM):List Bool×List Int :=
 if Mh W s b=true then s
 else (s.1.set ((cN (dE W.ah) b.bf).getD 0).toNat true,s.2.set ((cN (dE W.ah) b.j_).getD 0).toNat (s.2.getD ((cN (dE W.ah) b.j_).getD 0).toNat 0+yi (W.ah.getD ((cN (dE W.ah) b.bf).getD 0).toNat default).kind))
theorem Yb {W:ae} {s:List Bool×List Int} (h:Mh W s b=false):zw W s b=(s.1.set ((cN (dE W.ah) b.bf).getD 0).toNat true,s.2.set ((cN (dE W.ah) b.j_).getD 0).toNat (s.2.getD ((cN (dE W.ah) b.j_).getD 0).toNat 0+yi (W.ah.getD ((cN (dE W.ah) b.bf).getD 0).toNat default).kind)):=by
 unfold zw;rw [h];rfl
theorem X' {W:ae} {s:List Bool×List Int} (h:Mh W s b=true):zw W s b=s:=by unfold zw;rw [h];rfl
def j0 (W:ae) (l:List eM):List Bool×List Int:=l.foldl (zw W) (List.replicate W.ah.length false,List.replicate W.ah.length 0)
theorem ak3 (W:ae) (l:List eM) (b:eM):j0 W (l++ [b])=zw W (j0 W l) b:=by unfold j0;rw [aP0];rfl
theorem Yc (W:ae) (h:k<l.length):j0 W (l.take (k+1))=zw W (j0 W (l.take k)) (l.getD k default):=by
 rw [aMW h,ak3,aMv,aMy h];rfl
theorem aaS (k:Int):0≤yi k∧yi k≤4:=by unfold yi;split<;>(try split)<;>omega
def Hr (n m:Nat) (s:List Bool×List Int):Prop:=s.1.length=n∧s.2.length=n∧∀ j,0≤s.2.getD j 0∧s.2.getD j 0≤4 * m
theorem ak0 (W:ae) {n m:Nat} {s:List Bool×List Int} (b:eM) (h:Hr n m s):Hr n (m+1) (zw W s b):=by
 obtain ⟨κ,τ,aq⟩:=h;cases af:Mh W s b with
 | true=>rw [X' af];exact ⟨κ,τ,λ j=>by have:=aq j;omega⟩
 | false =>
  rw [Yb af];refine ⟨by rw [aMM];exact κ,by rw [aMM];exact τ,λ j=> ?_⟩;have aw:=aq j;have hx:=aaS (W.ah.getD ((cN (dE W.ah) b.bf).getD 0).toNat default).kind;have hm:=aq ((cN (dE W.ah) b.j_).getD 0).toNat;show 0≤(s.2.set _ _).getD j 0∧(s.2.set _ _).getD j 0≤_;generalize ((cN (dE W.ah) b.j_).getD 0).toNat=i at *
  generalize yi _=q at *
  rw [aMv] at aw;rw [aMv,aQ9];split
  ·split
   ·rw [aNx];omega
   ·rw [Option.getD_none];omega
  ·omega
theorem X_ (W:ae) {n:Nat}:∀ (l:List eM) {m:Nat} {s:List Bool×List Int},Hr n m s→Hr n (m+l.length) (l.foldl (zw W) s)
 | [],m,s,h=>h
 | b::l,m,s,h=>by
  have:=X_ W l (ak0 W b h);rw [aOW,aPn 1] at this;exact this
theorem Q1 (W:ae) (l:List eM):(j0 W l).1.length=W.ah.length∧(j0 W l).2.length=W.ah.length∧∀ j,0≤(j0 W l).2.getD j 0∧(j0 W l).2.getD j 0≤4 * l.length:=by
 have aB:Hr W.ah.length 0 (List.replicate W.ah.length false,List.replicate W.ah.length 0):=by
  refine ⟨aM2,aM2,λ j=> ?_⟩;have:(List.replicate W.ah.length (0:Int)).getD j 0=0:=by
   rw [aMv,aN3];split<;>rfl
  show 0≤(List.replicate W.ah.length (0:Int)).getD j 0∧(List.replicate W.ah.length (0:Int)).getD j 0≤_;rw [this];decide
 obtain ⟨κ,τ,aq⟩:=X_ W l aB;refine ⟨κ,τ,λ j=> ?_⟩;have:=aq j;rw [aND] at this;exact this
def lD (W:ae) (l:List eM):Int:=if W.a7≠0 then W.a7 else if 200<l.length then 2 else 0
def fE (W:ae) (l:List eM):List Int:=if lD W l≠0 then [] else (j0 W l).2
theorem Ya {W:ae} {w aM:World} (h:lD W l=v) (hv:v≠0) (x:Ext w aM):∃ A c,(Ending.returned (.tuple #[.slice none 0 0,γ v])= .returned (.tuple #[.slice A (fE W l).length c,γ (lD W l)]))∧bz.aL 3 8 aM w.heap.size (Φ.ab A) A c (fE W l)∧Ext w aM:=by
 have e:fE W l= []:=by unfold fE;rw [h,aMI hv]
 rw [e,h];exact ⟨none,0,Z,Φ.aL.nil _,x⟩
theorem ak1 {W:ae} (h:W.a7=0) (τ:¬ (200:Int)<l.length):lD W l=0∧fE W l=(j0 W l).2:=by
 have e:lD W l=0:=by unfold lD;rw [aMA (by simpa using h),aMA (by omega)]
 exact ⟨e,by unfold fE;rw [e];rfl⟩
theorem amE (a:ae.cU) (W:ae) (x y:a8) (w:World) (b8:ae.Has w a W) (h: -1000≤x.spot.x∧x.spot.x≤1000∧ -1000≤x.spot.y∧x.spot.y≤1000) (τ: -1000≤y.spot.x∧y.spot.x≤1000∧ -1000≤y.spot.y∧y.spot.y≤1000):
  Calls prog 140 #[.agg ((ae.cells a W).toArray), .agg #[γ x.id,γ x.owner,γ x.kind,γ x.spot.x,γ x.spot.y,γ x.df,γ x.load], .agg #[γ y.id,γ y.owner,γ y.kind,γ y.spot.x,γ y.spot.y,γ y.df,γ y.load]] w (λ e w'=>e= .returned (.bool (Ms W.field x y))∧Ext w w'):=by
 refine cx (n:=51) func140 Z Z Z ?_;refine eW Z Z λ dn bw bm fO ag=> ?_;have ja:=ag.lt;refine jk Z Z λ fP dI bD j8 aF=> ?_;have b7:=J bm bD;have qx:=aF.lt;refine jk Z Z λ iM iT b3 rm bI=> ?_;have c1:=J b7 b3;have yF:=bI.lt;refine aU Z<|aG<|aa (ar MV Z)<| ?_;have aF:=aF.later b3;refine bA Z aF aZ Z<|de MW Z (N7 (x.kind) _) λ qF eC=> ?_;have:=eC.size;have gR:=J c1 eC;refine vm Z<|b2 Z Z<|b2 Z Z<|dj MX Z λ yR Md jc atI xA=> ?_;have lq:=J gR jc;refine c6 Z Z xA Z MY Z Z λ Cb J1 xA=> ?_;have n2:=Ext.mod lq J1 bE;refine aU Z<|aG<|aa (ar q6 Z)<| ?_;have aF:=(aF.later (J eC jc)).mod J1 aY;refine aa (aA Z (aF.par [γ x.spot.x,γ x.spot.y] b0 bs Z))<|aa (ar q6 Z)<| ?_;have bI:=(bI.later (J eC jc)).mod J1 aY;refine aa (aA Z (bI.par [γ y.spot.x,γ y.spot.y] b0 bs Z))<|de ZN Z (XJ x.spot y.spot _ (by omega) (by omega)) λ Ek iN=> ?_;have nj:=J n2 iN;refine vm Z<|b2 Z Z<|b2 Z Z<|b2 Z Z<|va Z<|va Z<|aU Z<|aI<|aG<|aa (ar Bj Z)<| ?_;have aF:=aF.later iN;refine bA Z aF aZ Z<|aa (ar Bj Z)<| ?_;have bI:=bI.later iN;refine bA Z bI aZ Z<|aa (beq Z Z)<|vm Z<|gw Z Z<|cb Z (λ hc=>ar aoJ Z)<| ?_;have xA:=xA.later iN;refine cb Z (λ hc=>aA (gt hc Z) (xA.one aZ Z))<|cb Z (λ hc=>iv (gt hc Z) (gt hc Z))<|aa (gq Z Z Z Z)<|aJ<| ?_;refine c_ Z (λ I9=> ?_) (λ I9=> ?_)
 ·refine aG<|bL Z<|cW<|c' Z Z<| ?_;exact ⟨by unfold Ms;rw [I9];rfl,nj⟩
 ·refine bF<|aG<|aa (ar pZ Z)<| ?_;have ag:=((ag.later (J bD (J b3 (J eC jc)))).mod J1 aY).later iN;refine aa (aA Z (ag.par [γ W.field.wide,γ W.field.high, .slice a.P W.field.places.length a.p] gZ gy Z))<|aa (ar q6 Z)<|aa (aA Z (aF.par [γ x.spot.x,γ x.spot.y] b0 bs Z))<|aa (ar q6 Z)<|aa (aA Z (bI.par [γ y.spot.x,γ y.spot.y] b0 bs Z))<|de aoK Z (ayJ W.field x.spot y.spot _ _ _ (b8.P.keep nj)) λ agN sR=> ?_;have K9:=J nj sR;refine vm Z<|b2 Z Z<|b2 Z Z<|va Z<|aU Z<|aN Z<|bL Z<|c' Z Z<| ?_;exact ⟨by unfold Ms;rw [I9];rfl,K9⟩
theorem ak2 (a:ae.cU) (W:ae) (l:List eM) (A:Option Addr) (c:Nat) (w:World) (b8:ae.Has w a W) (ay:eM.rep.aQ 16 w A c l):
  Calls prog 116 #[.agg ((ae.cells a W).toArray), .slice A l.length c] w (λ e w'=>∃ A c,e= .returned (.tuple #[.slice A (fE W l).length c,γ (lD W l)])∧bz.aL 3 8 w' w.heap.size (Φ.ab A) A c (fE W l)∧Ext w w'):=by
 refine cx (n:=120) func116 Z Z Z ?_;refine eW Z Z λ dn bw bm fO ag=> ?_;have ja:=ag.lt;refine va Z<|aU Z<|aI<|aG<|aa (aA Z (ag.all fb cP))<|de Fy Z (E' a W _ (b8.keep bm)) λ fP d_=> ?_;have:=d_.size;have b7:=J bm d_;refine aU Z<|aN Z<|gJ Z Z<|aJ<| ?_;refine ob Z (λ hC=> ?_) (λ hC=> ?_)
 ·refine aN Z<|va Z<|bL Z<|cW<|hl Z Z Z<| ?_;exact Ya (by unfold lD;rw [aMI hC]) hC b7
 ·have av:=Good.tX hC;have BD:=av.dH;have abC:=λ i=>av.av0 i;have d':=λ x=>aw4 av x;have BE:=λ x=>aw7 W x;have F':=ay.km;refine bF<|aI<|aN Z<|aa (dC underlying143 Z)<|aa (iv Z Z)<|aJ<| ?_;refine fM Z (λ hN=> ?_) (λ hN=> ?_)
  ·refine aG<|va Z<|bL Z<|cW<|hl Z Z Z<| ?_;exact Ya (by unfold lD;rw [aMA (by simpa using hC),aMI (by omega)]) (by decide) b7
  ·refine bF<|aG<|Ug Z λ G0 GI ij atE ajp=> ?_;have rQ:=J b7 ij;refine aU Z<|aI<|aG<|aa (ar kf Z)<| ?_;have ag:=ag.later (J d_ ij);refine bA Z ag l9 Z<|aa (dC underlying50 Z)<|vm Z<|aJ<|bV<| ?_;refine gh (λ cL cw aV=>∃ k:Nat,cw= [(1, .slice A l.length c),(2, .pointer (a_ bw)),(4, .slice none 0 0),(5,γ 0),(7, .map (some GI)),(30, .slice a.T W.ah.length a.t),(31,γ (W.ah.length:Int)),(32,γ (k:Int))]∧cL=W.ah.length - k∧Ext w aV∧aO aV bw (ae.cells a W) 52 (0,0)∧n9 aV GI (dE (W.ah.take k))∧(k≤W.ah.length)) _ _ ⟨0,Z,Z,rQ,ag,ajp,by omega⟩ (eV Z Z Z) ?_;rintro Oo aC2 agM ⟨k,rfl,rfl,y0,ag,iG,aj⟩;have:=y0.size;have aJT:=ag.lt;have aJU:=iG.lt;refine aG<|fI Z Z<|aJ<|aI<| ?_;refine fM Z (λ vM=> ?_) (λ vM=> ?_)
   ·have awN:=BE (l.getD k default).bf;have awO:=BE (l.getD k default).j_;refine bF<|aI<|bV<|aN Z<|aa (bX k underlying50 kg Z Z ((b8.T.keep y0).bx (a1 k (by omega))) Z (by omega))<|aa (aA Z (Φ.aQ.jG jo ((b8.T.keep y0).ck (a1 k (by omega))) (cl (l:=W.ah) (u:=default) (by omega)) zI kg))<|dj Fz Z λ Ei aD4 jA aHK P4=> ?_;have lZ:=J y0 jA;refine va Z<|c6 Z Z P4 Z kg Z Z λ Cc iK P4=> ?_;have n3:=Ext.mod lZ iK bE;refine aJ<|rg<|vm Z<|aa (ar FA Z)<|bA Z P4 aZ Z<|vm Z<| ?_;have iG:=(iG.later jA).mod iK aY;refine mu underlying180 underlying3 iG (aw6 av (by omega)) Z Z Z λ G2 wG iG=> ?_;have EE:=Ext.mod n3 wG bE;refine nl<|cm<|br<|rg<|aa (bad Z Z (la (by omega)))<|vm Z<|nl<| ?_;have ag:=((ag.later jA).mod iK aY).mod wG aY;exact fh ⟨k+1,Z,Z,EE,ag,(by rw [asV (by omega)];exact iG),by omega⟩
   ·refine er<|ep<|eY<|eo<|br<|aG<|aa (ar kf Z)<|bA Z ag l9 Z<|aa (dC underlying50 Z)<|DL (R:=bz) (by_:=8) (B:=w.heap.size) (c:=W.ah.length) (zv:=(γ 0)) (q:=0) Φ.q9 underlying46 wj Z Z (λ j u h=>Ak j u h) (λ _=>⟨Z,cH.2 (by decide)⟩) Z Z Z (by omega) (by omega) (by omega) λ Vz zt fy adF LR=> ?_;have:=fy.size;have Cp:=J y0 fy;have KE:=bY LR.lt;have ad8:∀ q∈Φ.ab (a_ zt),zt≤q:=λ q I=>aOn (aMu.1 I).symm;refine aU Z<|aG<|aa (ar kf Z)<| ?_;have ag:=ag.later fy;refine bA Z ag l9 Z<|aa (dC underlying50 Z)<|DL (R:=nQ) (by_:=1) (B:=w.heap.size) (c:=W.ah.length) (zv:=(.bool false)) (q:=false) Φ.q9 underlying112 ajj Z Z (λ j u h=>UF j u h) (λ _=>⟨Z,trivial⟩) Z Z Z (by omega) (by omega) (by omega) λ Em vz ir adH EY=> ?_;have sX:=J Cp ir;have yv:∀ q∈Φ.ab (a_ vz),vz≤q:=λ q I=>aOn (aMu.1 I).symm;refine aU Z<|aI<|aN Z<|aa (dC underlying143 Z)<|vm Z<|aJ<|bV<| ?_;have iG:=iG.later (J fy ir);have LR:=LR.later ir;have ag:=ag.later ir;refine gh (λ cL cw aV=>∃ k:Nat,cw= [(2, .pointer (a_ bw)),(4, .slice none 0 0),(5,γ 0),(7, .map (some GI)),(10, .slice (a_ zt) W.ah.length W.ah.length),(11, .slice (a_ vz) W.ah.length W.ah.length),(50, .slice A l.length c),(51,γ (l.length:Int)),(52,γ (k:Int))]∧cL=l.length - k∧Ext w aV∧aO aV bw (ae.cells a W) 52 (0,0)∧n9 aV GI (dE W.ah)∧bz.aL 3 8 aV w.heap.size (Φ.ab (a_ zt)) (a_ zt) W.ah.length ((j0 W (l.take k)).2)∧nQ.aL 4 1 aV w.heap.size (Φ.ab (a_ vz)) (a_ vz) W.ah.length ((j0 W (l.take k)).1)∧(k≤l.length)∧(∀ q∈Φ.ab (a_ zt),q=bw→False)∧(∀ q∈Φ.ab (a_ zt),q=GI→False)∧(∀ q∈Φ.ab (a_ vz),q=bw→False)∧(∀ q∈Φ.ab (a_ vz),q=GI→False)∧(∀ q∈Φ.ab (a_ vz),q∈Φ.ab (a_ zt)→False)) _ _ ⟨0,Z,Z,sX,ag,(by have e:k=W.ah.length:=(by omega);rw [e,aOk] at iG;exact iG),LR,EY,by omega,(λ q I af=>by (have:=ad8 q I;omega)),(λ q I af=>by (have:=ad8 q I;omega)),(λ q I af=>by (have:=yv q I;omega)),(λ q I af=>by (have:=yv q I;omega)),(λ q I af=>by (have:=yv q I;(have:=KE q af;omega)))⟩ (eV Z Z Z) ?_;rintro lL aDh Pm ⟨k,rfl,rfl,sY,ag,iG,r0,pR,aj,sf,mI,mJ,Bc,sg⟩;have axE:=ag.lt;have afi:=iG.lt;have Vk:=bY r0.lt;have Vl:=bY pR.lt;obtain ⟨dM,bq,ek⟩:=Q1 W (l.take k);have dX:(l.take k).length≤k:=aOC k l;refine aG<|fI Z Z<|aJ<|aI<| ?_;refine fM Z (λ aqB=> ?_) (λ aqB=> ?_)
    ·have awN:=BE (l.getD k default).bf;have awO:=BE (l.getD k default).j_;refine bF<|aI<|bV<|aG<|aa (bX k underlying143 RE Z Z ((ay.keep sY).bx (a1 k (by omega))) Z (by omega))<|aa (aA Z (Φ.aQ.jG aqX ((ay.keep sY).ck (a1 k (by omega))) (cl (l:=l) (u:=default) (by omega)) aoL RE))<|dj aoM Z λ Pq X0 kK adI uV=> ?_;have y1:=J sY kK;have afk:=uV.lt;refine c6 Z Z uV Z RE Z Z λ KR D1 uV=> ?_;have:=D1.size;have nn:=Ext.mod y1 D1 bE;refine aJ<|aN Z<|aa (ar aoN Z)<|bA Z uV aZ Z<| ?_;have iG:=(iG.later kK).mod D1 aY;refine aa (lk underlying180 underlying3 RF iG Z Z)<|vm Z<|b2 Z Z<|b2 Z Z<|va Z<|aU Z<|aN Z<|aa (ar aoO Z)<|bA Z uV aZ Z<|aa (lk underlying180 underlying3 RF iG Z Z)<|vm Z<|b2 Z Z<|b2 Z Z<|va Z<|aU Z<|aI<|aI<| ?_;refine du [(10,0),(13,0),(15,0),(18,0),(20,0),(23,0),(24,0)] [0,1,2,3,4,5,6,7,8,9,10,11,12,13,14,15,16,17,18,19,20,21,22,23,24,25,26] ?_;refine bn Z Z<|ax Z (λ _=>dH Z)<|bn Z Z<|eP Z Z Z<|bQ Z Z (λ hc _=>dH (gt hc Z))<|ax Z (λ _=>gq Z Z Z Z)<|bn Z Z<|eP Z Z Z<|eP Z Z Z<| ?_;have pR:=(pR.later kK).mod D1 (bk Vl);refine bQ Z Z (λ hc _=>bX (((cN (dE W.ah) ((l.getD k default).bf)).getD 0).toNat) underlying112 C8 (gt hc Z) (gt hc Z) (pR.has.bx (a1 (((cN (dE W.ah) ((l.getD k default).bf)).getD 0).toNat) (by (try rw [dM]);simp only [cq] at hc;first | exact (d' _ hc.1).1 | exact (d' _ hc.2).1 | exact (d' _ hc.1.1).1 | exact (d' _ hc.1.2).1))) (by (try simp only [cq] at hc);omega) (by (try rw [dM]);simp only [cq] at hc;first | exact (d' _ hc.1).1 | exact (d' _ hc.2).1 | exact (d' _ hc.1.1).1 | exact (d' _ hc.1.2).1))<|dB Z Z (λ hc _ x=>aA (gt hc Z) (Φ.aQ.dm Jg ((pR.later x).has.ck (a1 (((cN (dE W.ah) ((l.getD k default).bf)).getD 0).toNat) (by (try rw [dM]);simp only [cq] at hc;first | exact (d' _ hc.1).1 | exact (d' _ hc.2).1 | exact (d' _ hc.1.1).1 | exact (d' _ hc.1.2).1))) (cl (l:=(j0 W (l.take k)).1) (u:=false) (by (try rw [dM]);simp only [cq] at hc;first | exact (d' _ hc.1).1 | exact (d' _ hc.2).1 | exact (d' _ hc.1.1).1 | exact (d' _ hc.1.2).1)) Z RG))<|ax Z (λ _=>gq Z Z Z Z)<|bn Z Z<| ?_;have ag:=(ag.later kK).mod D1 aY;refine dB Z Z (λ hc _ x=>aA Z ((ag.later x).all fb cP))<|bQ Z Z (λ hc _=>ar kf Z)<|dB Z Z (λ hc _ x=>aA (gt hc Z) ((ag.later x).one l9 Z))<|eP Z Z Z<|bQ Z Z (λ hc _=>bX (((cN (dE W.ah) ((l.getD k default).bf)).getD 0).toNat) underlying50 kg (gt hc Z) (gt hc Z) ((b8.T.keep nn).bx (a1 (((cN (dE W.ah) ((l.getD k default).bf)).getD 0).toNat) (by (try rw [(rfl:W.ah.length=W.ah.length)]);simp only [cq] at hc;first | exact (d' _ hc.1).1 | exact (d' _ hc.2).1 | exact (d' _ hc.1.1).1 | exact (d' _ hc.1.2).1))) (by (try simp only [cq] at hc);omega) (by (try rw [(rfl:W.ah.length=W.ah.length)]);simp only [cq] at hc;first | exact (d' _ hc.1).1 | exact (d' _ hc.2).1 | exact (d' _ hc.1.1).1 | exact (d' _ hc.1.2).1))<|dB Z Z (λ hc _ x=>aA (gt hc Z) (Φ.aQ.jG jo ((b8.T.keep (J nn x)).ck (a1 (((cN (dE W.ah) ((l.getD k default).bf)).getD 0).toNat) (by (try rw [(rfl:W.ah.length=W.ah.length)]);simp only [cq] at hc;first | exact (d' _ hc.1).1 | exact (d' _ hc.2).1 | exact (d' _ hc.1.1).1 | exact (d' _ hc.1.2).1))) (cl (l:=W.ah) (u:=default) (by (try rw [(rfl:W.ah.length=W.ah.length)]);simp only [cq] at hc;first | exact (d' _ hc.1).1 | exact (d' _ hc.2).1 | exact (d' _ hc.1.1).1 | exact (d' _ hc.1.2).1)) zI kg))<|bQ Z Z (λ hc _=>ar kf Z)<|dB Z Z (λ hc _ x=>aA (gt hc Z) ((ag.later x).one l9 Z))<|eP Z Z Z<|bQ Z Z (λ hc _=>bX (((cN (dE W.ah) ((l.getD k default).j_)).getD 0).toNat) underlying50 kg (gt hc Z) (gt hc Z) ((b8.T.keep nn).bx (a1 (((cN (dE W.ah) ((l.getD k default).j_)).getD 0).toNat) (by (try rw [(rfl:W.ah.length=W.ah.length)]);simp only [cq] at hc;first | exact (d' _ hc.1).1 | exact (d' _ hc.2).1 | exact (d' _ hc.1.1).1 | exact (d' _ hc.1.2).1))) (by (try simp only [cq] at hc);omega) (by (try rw [(rfl:W.ah.length=W.ah.length)]);simp only [cq] at hc;first | exact (d' _ hc.1).1 | exact (d' _ hc.2).1 | exact (d' _ hc.1.1).1 | exact (d' _ hc.1.2).1))<|dB Z Z (λ hc _ x=>aA (gt hc Z) (Φ.aQ.jG jo ((b8.T.keep (J nn x)).ck (a1 (((cN (dE W.ah) ((l.getD k default).j_)).getD 0).toNat) (by (try rw [(rfl:W.ah.length=W.ah.length)]);simp only [cq] at hc;first | exact (d' _ hc.1).1 | exact (d' _ hc.2).1 | exact (d' _ hc.1.1).1 | exact (d' _ hc.1.2).1))) (cl (l:=W.ah) (u:=default) (by (try rw [(rfl:W.ah.length=W.ah.length)]);simp only [cq] at hc;first | exact (d' _ hc.1).1 | exact (d' _ hc.2).1 | exact (d' _ hc.1.1).1 | exact (d' _ hc.1.2).1)) zI kg))<|kh Z Z Z Z Z Z aoP (λ hc=>gG (gt hc Z) (gG (gt hc Z) (gG (gt hc Z) Z))) (λ hc _ x=>amE a W ((W.ah.getD (((cN (dE W.ah) ((l.getD k default).bf)).getD 0).toNat) default)) ((W.ah.getD (((cN (dE W.ah) ((l.getD k default).j_)).getD 0).toNat) default)) _ (b8.keep (J nn x)) (abC _) (abC _)) Z<|bQ Z Z (λ hc _=>dH (gt hc Z))<|ax Z (λ _=>gq Z Z Z Z)<|fn λ G4 kr=> ?_;have:=kr.size;have n4:=J nn kr;refine br<| ?_;refine c_ Z (λ yh=> ?_) (λ yh=> ?_)
     ·refine er<|ep<|eo<|br<|rg<|aa (bad Z Z (la (by omega)))<|vm Z<|nl<| ?_;have aR:j0 W (l.take (k+1))=((j0 W (l.take k)).1,(j0 W (l.take k)).2):=by rw [Yc W (by omega),X' yh]
      have ag:=ag.later kr;have iG:=iG.later kr;have r0:=((r0.later kK).mod D1 (bk Vk)).later kr;have pR:=pR.later kr;exact fh ⟨k+1,Z,Z,n4,ag,iG,(by rw [aR];exact r0),(by rw [aR];exact pR),by omega,sf,mI,mJ,Bc,sg⟩
     ·have dN:=yh;simp only [cq] at dN;have i1:=(d' _ dN.1.1.1).1;have i2:=(d' _ dN.1.1.2).1;have aM:=ek (((cN (dE W.ah) ((l.getD k default).j_)).getD 0).toNat);have b':=aaS (W.ah.getD (((cN (dE W.ah) ((l.getD k default).bf)).getD 0).toNat) default).kind;refine bF<|aG<|aa (ar kf Z)<| ?_;have ag:=ag.later kr;refine bA Z ag l9 Z<|vm Z<|aa (bX (((cN (dE W.ah) ((l.getD k default).bf)).getD 0).toNat) underlying50 kg Z Z ((b8.T.keep n4).bx (a1 (((cN (dE W.ah) ((l.getD k default).bf)).getD 0).toNat) (by omega))) (by omega) (by omega))<|aa (ar MV Z)<|aa (aA Z (Φ.aQ.oh jo ((b8.T.keep n4).ck (a1 (((cN (dE W.ah) ((l.getD k default).bf)).getD 0).toNat) (by omega))) 2 (cl (l:=W.ah) (u:=default) (by omega)) Z aZ))<|de MW Z (N7 ((W.ah.getD (((cN (dE W.ah) ((l.getD k default).bf)).getD 0).toNat) default).kind) _) λ Er eF=> ?_;have:=eF.size;have kv:=J n4 eF;refine vm Z<|b2 Z Z<|b2 Z Z<|dj MX Z λ KT akQ n1 aIf Hq=> ?_;have y2:=J kv n1;refine c6 Z Z Hq Z MY Z Z λ VI J7 Hq=> ?_;have AP:=Ext.mod y2 J7 bE;refine aU Z<|aN Z<|vm Z<| ?_;have pR:=(pR.later (J kr (J eF n1))).mod J7 (bk Vl);refine aa (bX (((cN (dE W.ah) ((l.getD k default).bf)).getD 0).toNat) underlying112 C8 Z Z (pR.has.bx (a1 (((cN (dE W.ah) ((l.getD k default).bf)).getD 0).toNat) (by omega))) (by omega) (by omega))<|so (q':=true) (j:=0) (i:=(((cN (dE W.ah) ((l.getD k default).bf)).getD 0).toNat)) pR Φ.cZ (cl (l:=(j0 W (l.take k)).1) (u:=false) (by omega)) Z Z Z Z (λ _ cs h=>by have wS:=(show _∧_ from h).2;obtain rfl:=Jg h;exact ⟨rfl,trivial⟩) Z Z C8 λ Vr lJ QA=> ?_;have AH:=Ext.mod AP lJ (λ q I=>(pR.lt q I).1);refine aJ<| ?_;refine du [(3,0),(5,0),(8,3)] [0,1,2,3,4,5,6,7,8] ?_;refine bn Z Z<|bn Z Z<| ?_;have r0:=((((r0.later kK).mod D1 (bk Vk)).later (J kr (J eF n1))).mod J7 (bk Vk)).mod lJ (fX sg);refine ax Z (λ _=>bX (((cN (dE W.ah) ((l.getD k default).j_)).getD 0).toNat) underlying46 cr Z Z (r0.has.bx (a1 (((cN (dE W.ah) ((l.getD k default).j_)).getD 0).toNat) (by omega))) (by omega) (by omega))<|cR Z (λ _ x=>aA Z (Φ.aQ.dm dy ((r0.later x).has.ck (a1 (((cN (dE W.ah) ((l.getD k default).j_)).getD 0).toNat) (by omega))) (cl (l:=(j0 W (l.take k)).2) (u:=0) (by omega)) Z aZ))<|ax Z (λ _=>ar aoQ Z)<| ?_;have amH:∀ q∈Φ.ab (a_ vz),q=akQ→False:=λ q I af=>by (have:=Vl q I;omega)
      have Hq:=Hq.mod lJ (λ I=>amH _ I rfl);refine cO Z Z Hq aZ Z<|ax Z (λ _=>bad Z Z (la (by omega)))<|ax Z (λ _=>bX (((cN (dE W.ah) ((l.getD k default).j_)).getD 0).toNat) underlying46 cr Z Z (r0.has.bx (a1 (((cN (dE W.ah) ((l.getD k default).j_)).getD 0).toNat) (by omega))) (by omega) (by omega))<|dA Z Z Z λ agJ rO Q hK=>so (q':=(((j0 W (l.take k)).2).getD (((cN (dE W.ah) ((l.getD k default).j_)).getD 0).toNat) 0)+(yi ((W.ah.getD (((cN (dE W.ah) ((l.getD k default).bf)).getD 0).toNat) default).kind))) (j:=0) (i:=(((cN (dE W.ah) ((l.getD k default).j_)).getD 0).toNat)) (r0.later rO) Φ.cZ (cl (l:=(j0 W (l.take k)).2) (u:=0) (by omega)) Z Z Z Z (λ _ cs h=>by have wS:=(show _∧_ from h).2;obtain rfl:=dy h;exact ⟨rfl,cH.2 (by omega)⟩) Z Z cr λ aAd yy A3=>hK _ _ ?_;have Hc:=J AH rO;have VY:=Ext.mod Hc yy (λ q I=>((r0.later rO).lt q I).1);refine fn λ Pf lS=> ?_;have AI:=J VY lS;refine cm<|br<|rg<|aa (bad Z Z (la (by omega)))<|vm Z<|nl<| ?_;have aR:j0 W (l.take (k+1))=(((j0 W (l.take k)).1).set (((cN (dE W.ah) ((l.getD k default).bf)).getD 0).toNat) true,((j0 W (l.take k)).2).set (((cN (dE W.ah) ((l.getD k default).j_)).getD 0).toNat) ((((j0 W (l.take k)).2).getD (((cN (dE W.ah) ((l.getD k default).j_)).getD 0).toNat) 0)+(yi ((W.ah.getD (((cN (dE W.ah) ((l.getD k default).bf)).getD 0).toNat) default).kind)))):=by rw [Yc W (by omega),Yb yh]
      have ag:=(((((ag.later (J eF n1)).mod J7 aY).mod lJ (λ I=>mJ _ I rfl)).later rO).mod yy (λ I=>sf _ I rfl)).later lS;have iG:=(((((iG.later (J kr (J eF n1))).mod J7 aY).mod lJ (λ I=>Bc _ I rfl)).later rO).mod yy (λ I=>mI _ I rfl)).later lS;have A3:=A3.later lS;have QA:=((QA.later rO).mod yy sg).later lS;exact fh ⟨k+1,Z,Z,AI,ag,iG,(by rw [aR];exact A3),(by rw [aR];exact QA),by omega,sf,mI,mJ,Bc,sg⟩
    ·refine er<|ep<|eY<|eo<|br<|aN Z<|va Z<|bL Z<|hl Z Z Z<| ?_;obtain ⟨r1,r2⟩:=ak1 hC hN;have e:k=l.length:=by omega
     rw [e,aOk] at r0;rw [r1,r2];exact ⟨_,_,by rw [(Q1 W l).2.1];rfl,r0,sY⟩
end
section
variable {h:List Int} {k:Nat} {l:List eM}
theorem ajk:dL prog a8.rep 50 108 56:=dL.jw (z:=a8.zero) (k:=7) underlying50 a8.info rfl rfl (by decide) a8.k3
theorem ajl:dL prog bz 46 3 8:=dL.jw (z:=γ 0) (k:=1) underlying46 wj rfl rfl (by decide) (λ j u h=>Ak j u h)
def wb (T:List a8) (h:List Int) (i:Nat):a8:= {T.getD i default with df:=(T.getD i default).df - h.getD i 0}
def ph (T:List a8) (h:List Int) (k:Nat):List a8:=((List.range k).map (wb T h)).filter λ t=>decide (0<t.df)
def o_ (T:List a8) (h:List Int) (k:Nat):List Int:=(((List.range k).map (wb T h)).filter λ t=> !decide (0<t.df)).map a8.id
theorem aum {T:List a8} (hp:0<(T.getD k default).df - h.getD k 0):ph T h (k+1)=ph T h k++ [wb T h k]:=by
 unfold ph;rw [aNG,aM0,aNv,aNc,aNP,aNB,aMI (show decide (0<(wb T h k).df)=true from aMV hp)];rfl
theorem aul {T:List a8} (hp:¬ 0<(T.getD k default).df - h.getD k 0):ph T h (k+1)=ph T h k:=by
 unfold ph;rw [aNG,aM0,aNv,aNc,aNP,aNB,aMA (show ¬ decide (0<(wb T h k).df)=true from λ e=>hp (aNt e))];simp
theorem ap1 {T:List a8} (hp:0<(T.getD k default).df - h.getD k 0):o_ T h (k+1)=o_ T h k:=by
 unfold o_;rw [aNG,aM0,aNv,aNc,aNP,aNB,aMA (show ¬ (!decide (0<(wb T h k).df))=true from by rw [aMV (show 0<(wb T h k).df from hp)];decide)];simp
theorem ap0 {T:List a8} (hp:¬ 0<(T.getD k default).df - h.getD k 0):o_ T h (k+1)=o_ T h k++ [(T.getD k default).id]:=by
 unfold o_;rw [aNG,aM0,aNv,aNc,aNP,aNB,aMI (show (!decide (0<(wb T h k).df))=true from by rw [aMY (show ¬ 0<(wb T h k).df from hp)];rfl),aM0];rfl
theorem auk (T:List a8) (h:List Int) (k:Nat):(ph T h k).length≤k:=by unfold ph;exact aMR (aN1 _ _) (by simp)
theorem aat (T:List a8) (h:List Int) (k:Nat):(o_ T h k).length≤k:=by unfold o_;rw [aNf];exact aMR (aN1 _ _) (by simp)
theorem Q0 {W:ae} (h:lD W l=0):W.a7=0∧l.length≤200:=by
 unfold lD at h;split at h
 ·contradiction
 ·rename_i hc
  split at h
  ·exact nomatch h
  ·exact ⟨by simpa using hc,by omega⟩
theorem SY {W:ae} (h:lD W l=0):(fE W l).length=W.ah.length∧∀ k,0≤(fE W l).getD k 0∧(fE W l).getD k 0≤800:=by
 obtain ⟨κ,τ,aq⟩:=Q1 W l;have bb:=(Q0 h).2;have e:fE W l=(j0 W l).2:=by unfold fE;rw [h];rfl
 rw [e];exact ⟨τ,λ k=>by have:=aq k;omega⟩
theorem Va {w:World} {A:Option Addr} {c:Nat} {T:List a8} (h:a8.rep.aQ 56 w A c T) (k:Nat):(T.getD k default).ok:=by
 rw [aMv];cases aC:T[k]? with
 | none=>exact ⟨by decide,by decide,by decide,by decide,by decide,by decide,by decide⟩
 | some t=>exact Φ.aQ.H6 (Q:=a8.ok) (λ h=>And.right (show _∧_ from h)) h t (aNi aC)
theorem Good.auy {W:ae} (av:Good W) (aj:k<W.ah.length):1≤(W.ah.getD k default).df∧(W.ah.getD k default).df≤20:=by
 obtain ⟨t,aC⟩:=jm aj;have e:W.ah.getD k default=t:=by rw [aMv,aC];rfl
 rw [e];have κ:=av.ah k t aC;have τ:ae.hg t.kind≤20:=by unfold ae.hg;split<;>(try split)<;>omega
 have:=κ.df;omega
def ub (W:ae) (l:List eM):ae:=if lD W l≠0 then ae.zero else {W with ah:=ph W.ah (fE W l) W.ah.length}
def yI (W:ae) (l:List eM):List Int:=if lD W l≠0 then [] else o_ W.ah (fE W l) W.ah.length
def aku (W:ae) (l:List eM) (w:World) (e:Ending) (w':World):Prop :=
 ∃ a' A c,e= .returned (.tuple #[.agg (ae.cells a' (ub W l)).toArray, .slice A (yI W l).length c,γ (lD W l)])∧bt w' w.heap.size a' (ub W l)∧bz.aL 3 8 w' w.heap.size (Φ.ab A) A c (yI W l)∧(∀ q∈Φ.ab A,q∉bt.cA a')∧Ext w w'
theorem azh {W:ae} (h:¬ lD W l=0):ub W l=ae.zero∧yI W l= []:=by unfold ub yI;rw [aMI h,aMI h];exact ⟨Z,Z⟩
theorem O4 {W:ae} (h:lD W l=0) (aj:k=W.ah.length):ub W l= {W with ah:=ph W.ah (fE W l) k}∧yI W l=o_ W.ah (fE W l) k:=by
 subst aj;unfold ub yI;rw [aMA (by simpa using h),aMA (by simpa using h)];exact ⟨Z,Z⟩
theorem asi (a:ae.cU) (W:ae) (w:World) (b8:ae.Has w a W):
  Calls prog 117 #[.agg ((ae.cells a W).toArray)] w (λ e w'=>∃ a':ae.cU,e= .returned (.agg (ae.cells a' W).toArray)∧bt w' w.heap.size a' W∧Ext w w'):=by
 refine cx (n:=26) func117 Z Z Z ?_;refine eW Z Z λ dn bw bm fO ag=> ?_;have ja:=ag.lt;refine dj p0 Z λ fP dI bD j8 aF=> ?_;have:=bD.size;have b7:=J bm bD;have qx:=aF.lt;refine aJ<|aG<|aa (ar pZ Z)<|aa (ar tu Z)<| ?_;have ag:=ag.later bD;refine bA Z ag fC Z<|ca C9 Z Z ((xR _ _ W.field.places _ (b8.P.keep b7)).mono ?_);rintro e Eh ⟨y3,A8,rfl,vd,arY,ik⟩;refine cK ?_;have:=ik.size;have oY:=J b7 ik;have pB:=bY vd.lt;have qm:=dJ vd.lt;refine aa (ar pZ Z)<|aa (ar tu Z)<| ?_;have ag:=ag.later ik;refine fH Z Z ag Z x_ Z Z λ rL mh ag=> ?_;have:=mh.size;have hU:=Ext.mod oY mh bE;refine aJ<|aI<| ?_;refine du [(1,0),(2,2),(4,0),(5,2),(7,3),(9,3)] [0,1,3,4,2,6,5,7,8,9] ?_;refine ax Z (λ _=>ar sq Z)<|cO Z Z ag x' Z<|ax Z (λ _=>ar tv Z)<|cO Z Z ag fC Z<|fS Z Z Z λ yR dS Q hK=>ca RH Z Z ((Mq _ _ W.bj _ (b8.B.keep (J hU dS))).mono ?_);rintro e KM ⟨PU,Q5,rfl,ve,arZ,lT⟩;refine ⟨_,Z,hK _ _ ⟨J dS lT, ?_⟩⟩;have:=dS.size;have lq:=J hU dS;have:=lT.size;have sU:=J lq lT;have yM:=bY ve.lt;have sC:=dJ ve.lt;refine ax Z (λ _=>ar sq Z)<|fS Z Z Z λ Cc fk Q hK=>ca C9 Z Z ((xR _ _ W.bh _ (b8.S.keep (J sU fk))).mono ?_);rintro e sN ⟨PW,Q6,rfl,vg,ar0,im⟩;refine ⟨_,Z,hK _ _ ⟨J fk im, ?_⟩⟩;have:=fk.size;have n3:=J sU fk;have:=im.size;have k1:=J n3 im;have KD:=bY vg.lt;have lf:=dJ vg.lt;have ag:=ag.later (J dS (J lT (J fk im)));refine dA Z Z Z λ El fy Q hK=>fH Z Z (ag.later fy) Z RI Z Z λ xd sF ag=>hK _ _ ?_;have:=fy.size;have o0:=J k1 fy;have:=sF.size;have nk:=Ext.mod o0 sF bE;refine ax Z (λ _=>ar tv Z)<|dA Z Z Z λ Em hG Q hK=>fH Z Z (ag.later hG) Z x_ Z Z λ En fY ag=>hK _ _ ?_;have:=hG.size;have sX:=J nk hG;have:=fY.size;have l0:=Ext.mod sX fY bE;refine fn λ um fl=> ?_;have:=fl.size;have jU:=J l0 fl;refine br<|aI<| ?_;refine du [(1,0),(2,2),(4,0),(5,2),(7,3),(9,3)] [0,1,3,4,2,6,5,7,8,9] ?_;refine ax Z (λ _=>ar FB Z)<| ?_;have ag:=ag.later fl;refine cO Z Z ag fC Z<|ax Z (λ _=>ar kf Z)<|cO Z Z ag l9 Z<|fS Z Z Z λ Pl gW Q hK=>ca C9 Z Z ((xR _ _ W.bW _ (b8.M.keep (J jU gW))).mono ?_);rintro e KP ⟨PY,E_,rfl,vh,ar1,oV⟩;refine ⟨_,Z,hK _ _ ⟨J gW oV, ?_⟩⟩;have:=gW.size;have AN:=J jU gW;have:=oV.size;have rS:=J AN oV;have Vg:=bY vh.lt;have sD:=dJ vh.lt;refine ax Z (λ _=>ar FB Z)<|fS Z Z Z λ Po iO Q hK=>ca RJ Z Z ((Mr _ _ W.ah _ (b8.T.keep (J rS iO))).mono ?_);rintro e Pr ⟨P0,Mm,rfl,zi,ar2,eZ⟩;refine ⟨_,Z,hK _ _ ⟨J iO eZ, ?_⟩⟩;have:=iO.size;have uN:=J rS iO;have EG:=J uN eZ;have qo:=dJ zi.lt;have ag:=ag.later (J gW (J oV (J iO eZ)));refine dA Z Z Z λ agU oW Q hK=>fH Z Z (ag.later oW) Z x_ Z Z λ Ep kD ag=>hK _ _ ?_;have Lc:=J EG oW;have jV:=Ext.mod Lc kD bE;refine ax Z (λ _=>ar kf Z)<|dA Z Z Z λ KS gQ Q hK=>fH Z Z (ag.later gQ) Z IC Z Z λ Er qt ag=>hK _ _ ?_;have uP:=J jV gQ;have kv:=Ext.mod uP qt bE;refine fn λ Pt jE=> ?_;have uQ:=J kv jE;refine br<|aG<| ?_;have ag:=ag.later jE;refine aa (aA Z (ag.all fb cP))<| ?_;have aF:=((((((((((aF.later ik).mod mh aY).later (J dS (J lT (J fk (J im fy))))).mod sF aY).later hG).mod fY aY).later (J fl (J gW (J oV (J iO (J eZ oW)))))).mod kD aY).later gQ).mod qt aY).later jE;refine c6 Z Z aF Z cP Z Z λ agY mi aF=> ?_;have Le:=Ext.mod uQ mi bE;refine tM<|dR (.cell Z (aF.all fb cP) .nil)<| ?_;have vd:=((((((((((vd.mod mh (bG qm)).later (J dS (J lT (J fk (J im fy))))).mod sF (bG qm)).later hG).mod fY (bG qm)).later (J fl (J gW (J oV (J iO (J eZ oW)))))).mod kD (bG qm)).later gQ).mod qt (bG qm)).later jE).mod mi (bG qm);have ve:=(((((((((ve.later (J fk (J im fy))).mod sF (bG sC)).later hG).mod fY (bG sC)).later (J fl (J gW (J oV (J iO (J eZ oW)))))).mod kD (bG sC)).later gQ).mod qt (bG sC)).later jE).mod mi (bG sC);have vg:=(((((((((vg.later fy).mod sF (bG lf)).later hG).mod fY (bG lf)).later (J fl (J gW (J oV (J iO (J eZ oW)))))).mod kD (bG lf)).later gQ).mod qt (bG lf)).later jE).mod mi (bG lf);have vh:=(((((vh.later (J iO (J eZ oW))).mod kD (bG sD)).later gQ).mod qt (bG sD)).later jE).mod mi (bG sD);have zi:=(((((zi.later oW).mod kD (bG qo)).later gQ).mod qt (bG qo)).later jE).mod mi (bG qo);have hR:=bt.Um (az:=w.heap.size) (vd.down (by omega)) (ve.down (by omega)) (vg.down (by omega)) (vh.down (by omega)) (zi.down (by omega)) (λ q κ τ=>by exfalso;(have:=sC q κ;(have:=pB q τ;omega))) (λ q κ τ=>by exfalso;(have:=lf q κ;(have:=pB q τ;omega))) (λ q κ τ=>by exfalso;(have:=lf q κ;(have:=yM q τ;omega))) (λ q κ τ=>by exfalso;(have:=sD q κ;(have:=pB q τ;omega))) (λ q κ τ=>by exfalso;(have:=sD q κ;(have:=yM q τ;omega))) (λ q κ τ=>by exfalso;(have:=sD q κ;(have:=KD q τ;omega))) (λ q κ τ=>by exfalso;(have:=qo q κ;(have:=pB q τ;omega))) (λ q κ τ=>by exfalso;(have:=qo q κ;(have:=yM q τ;omega))) (λ q κ τ=>by exfalso;(have:=qo q κ;(have:=KD q τ;omega))) (λ q κ τ=>by exfalso;(have:=qo q κ;(have:=Vg q τ;omega))) b8.nums;exact ⟨⟨y3,PU,PW,PY,P0,A8,Q5,Q6,E_,Mm⟩,Z,hR,Le⟩
theorem azf (l:List eM) (A:Option Addr) (c:Nat) (a:ae.cU) (W:ae) (w:World) (b8:ae.Has w a W) (ay:eM.rep.aQ 16 w A c l):
  Calls prog 87 #[.agg ((ae.cells a W).toArray), .slice A l.length c] w (aku W l w):=by
 refine cx (n:=62) func87 Z Z Z ?_;refine eW Z Z λ dn bw bm fO ag=> ?_;have ja:=ag.lt;refine dj p0 Z λ fP dI bD j8 aF=> ?_;have b7:=J bm bD;have qx:=aF.lt;refine va Z<|aU Z<|aG<| ?_;have ag:=ag.later bD;refine aa (aA Z (ag.all fb cP))<|vm Z<|ca aoR Z Z ((ak2 a W l _ _ _ (b8.keep b7) (ay.keep b7)).mono ?_);rintro e Eh ⟨y3,A8,rfl,n_,ik⟩;refine cK ?_;have:=ik.size;have oY:=J b7 ik;have pB:=bY n_.lt;have qm:=dJ n_.lt;refine vm Z<|b2 Z Z<|b2 Z Z<|va Z<|aU Z<|aI<|aN Z<|gJ Z Z<|aJ<| ?_;refine ob Z (λ yf=> ?_) (λ yf=> ?_)
 ·refine aG<|aa (v:= .agg #[γ 0,γ 0, .slice none 0 0, .slice none 0 0, .slice none 0 0, .slice none 0 0, .slice none 0 0,γ 0,γ 0]) (ht Z)<|vm Z<| ?_;have aF:=aF.later ik;refine c6 Z Z aF Z cP Z Z λ qF Ab aF=> ?_;have gR:=Ext.mod oY Ab bE;refine va Z<|bL Z<|cW<|dR (.cell Z (aF.all fb cP) (.tmp Z (.tmp Z .nil)))<| ?_;obtain ⟨aR,a6⟩:=azh yf;exact ⟨⟨none,none,none,none,none,0,0,0,0,0⟩,none,0,by rw [aR,a6];rfl,by rw [aR];exact bt.zero _ _,by rw [a6];exact Φ.aL.nil _,λ q I=>by simp [Φ.ab] at I,gR⟩
 ·obtain ⟨hc,aFw⟩:=Q0 yf;have av:=Good.tX hc;have BD:=av.dH;obtain ⟨qX,e_⟩:=SY yf;have dk:=Va b8.T;have mQ:=λ k (aj:k<W.ah.length)=>av.auy aj;refine bF<|aG<| ?_;have ag:=ag.later ik;refine aa (aA Z (ag.all fb cP))<|ca aoS Z Z ((asi a W _ (b8.keep oY)).mono ?_);rintro e Ej ⟨cV,rfl,bc,jA⟩;refine cK ?_;have:=jA.size;have ni:=J oY jA;have Ef:=bY bc.lt;have T3:=dJ bc.lt;have ag:=ag.later jA;refine st Z Z ag Z cP Z Z Z λ Au jN ag=> ?_;have:=jN.size;have jd:=Ext.mod ni jN bE;refine aJ<|aG<|aU Z<|aG<|aa (ar kf Z)<|bA Z ag l9 Z<|aa (dC underlying50 Z)<|avb (R:=a8.rep) (by_:=56) (B:=w.heap.size) (c:=W.ah.length) (zv:=a8.zero) Φ.q9 underlying50 a8.info Z (by decide) a8.k3 Z Z Z (by omega) (by omega) (by omega) λ G1 QW iN aHQ QG=> ?_;have rR:=J jd iN;have wk:∀ q∈Φ.ab (a_ QW),QW≤q:=λ q I=>aOn (aMu.1 I).symm;refine aU Z<|aI<|aG<|aa (ar kf Z)<| ?_;have ag:=ag.later iN;refine bA Z ag l9 Z<|aa (dC underlying50 Z)<|vm Z<|aJ<|bV<| ?_;have ee:=ud (jN) iN;have n_:=(n_.later jA).mod ee (bG qm);have bc:=bc.mod ee (bG T3);have aF:=(aF.later (J ik jA)).mod ee aY;refine gh (λ cL cw aV=>∃ k:Nat,∃ uS:Option Addr,∃ Ip:Nat,∃ eB:Option Addr,∃ Im:Nat,cw= [(2, .pointer (a_ bw)),(4, .pointer (a_ dI)),(5, .slice none 0 0),(6,γ 0),(7, .slice y3 ((fE W l).length) A8),(9, .slice eB ((o_ W.ah (fE W l) k).length) Im),(10, .slice uS ((ph W.ah (fE W l) k).length) Ip),(30, .slice cV.T W.ah.length cV.t),(31,γ (W.ah.length:Int)),(32,γ (k:Int))]∧cL=W.ah.length - k∧Ext w aV∧aO aV bw (ae.cells cV W) 52 (0,0)∧aO aV dI [γ 0,γ 0, .slice none 0 0, .slice none 0 0, .slice none 0 0, .slice none 0 0, .slice none 0 0,γ 0,γ 0] 52 (0,0)∧bz.aL 3 8 aV fP.heap.size (Φ.ab y3) y3 A8 (fE W l)∧bt aV Eh.heap.size cV W∧a8.rep.aL 108 56 aV w.heap.size (Φ.ab uS) uS Ip (ph W.ah (fE W l) k)∧bz.aL 3 8 aV w.heap.size (Φ.ab eB) eB Im (o_ W.ah (fE W l) k)∧(k≤W.ah.length)∧(∀ q∈Φ.ab uS,q=bw→False)∧(∀ q∈Φ.ab uS,q=dI→False)∧(∀ q∈Φ.ab uS,q∈bt.cA cV→False)∧(∀ q∈Φ.ab uS,q∈Φ.ab y3→False)∧(∀ q∈Φ.ab eB,q=bw→False)∧(∀ q∈Φ.ab eB,q=dI→False)∧(∀ q∈Φ.ab eB,q∈bt.cA cV→False)∧(∀ q∈Φ.ab eB,q∈Φ.ab y3→False)∧(∀ q∈Φ.ab eB,q∈Φ.ab uS→False)) _ _ ⟨0,some ⟨QW,0,none⟩,W.ah.length,none,0,Z,Z,rR,ag,aF,n_,bc,QG,(Φ.aL.nil _),by omega,(λ q I af=>by (have:=wk q I;omega)),(λ q I af=>by (have:=wk q I;omega)),(λ q I af=>by (have:=wk q I;(have:=Ef q af;omega))),(λ q I af=>by (have:=wk q I;(have:=pB q af;omega))),(λ q I af=>by (simp [Φ.ab] at I)),(λ q I af=>by (simp [Φ.ab] at I)),(λ q I af=>by (simp [Φ.ab] at I)),(λ q I af=>by (simp [Φ.ab] at I)),(λ q I af=>by (simp [Φ.ab] at I))⟩ (eV Z Z Z) ?_;rintro fY aiQ En ⟨k,uS,Ip,eB,Im,rfl,rfl,l0,ag,aF,n_,bc,vl,vk,aj,vC,xV,xW,Fj,Bb,MG,CZ,zB,zC⟩;have Uw:=ag.lt;have afh:=aF.lt;have At:=bY n_.lt;have B_:=bY bc.lt;have KF:=bY vl.lt;have KG:=bY vk.lt;have BU:=auk W.ah (fE W l) k;have rB:=aat W.ah (fE W l) k;refine aG<|fI Z Z<|aJ<|aI<| ?_;refine fM Z (λ aqz=> ?_) (λ aqz=> ?_)
  ·obtain ⟨v1,v2⟩:=e_ k;have aF9:=mQ k (by omega);refine bF<|aI<|bV<|aN Z<|aa (bX k underlying50 kg Z Z (bc.T.has.bx (a1 k)) Z (by omega))<|aa (aA Z (Φ.aQ.jG jo (bc.T.has.ck (a1 k)) (cl (l:=W.ah) (u:=default) (by omega)) zI kg))<|dj Fz Z λ Pm aEl uH aH2 uT=> ?_;have sY:=J l0 uH;have afj:=uT.lt;refine va Z<|c6 Z Z uT Z kg Z Z λ Pp gT uT=> ?_;have:=gT.size;have AO:=Ext.mod sY gT bE;refine aJ<|aI<| ?_;refine du [(1,0),(5,0),(8,3)] [0,1,2,3,4,5,6,7,8] ?_;refine ax Z (λ _=>ar M1 Z)<|cO Z Z uT aZ Z<|bn Z Z<|bn Z Z<| ?_;have n_:=(n_.later uH).mod gT (cY λ q I af=>by have:=At q I;have:=pB q I;omega);refine ax Z (λ _=>bX k underlying46 cr Z Z (n_.has.bx (a1 k)) Z (by omega))<|cR Z (λ _ x=>aA Z (Φ.aQ.dm dy ((n_.later x).has.ck (a1 k)) (cl (l:=fE W l) (u:=0) (by omega)) Z aZ))<|ax Z (λ _=>iH Z Z fN)<|ax Z (λ _=>ar M1 Z)<|dA Z Z Z λ Pr eZ Q hK=>fH Z Z (uT.later eZ) Z cr Z Z λ aAx ry uT=>hK _ _ ?_;have:=eZ.size;have EG:=J AO eZ;have:=ry.size;have Wf:=Ext.mod EG ry bE;refine fn λ Ps gx=> ?_;have:=gx.size;have qK:=J Wf gx;refine br<|aG<|aa (ar M1 Z)<| ?_;have uT:=uT.later gx;refine bA Z uT aZ Z<|aa (iv Z Z)<|aJ<| ?_;refine fM Z (λ vN=> ?_) (λ vN=> ?_)
   ·refine rg<|vm Z<|aa (aA Z (uT.all zI kg))<|b9 (e:= 108) (cs:= [γ ((W.ah.getD k default).id),γ ((W.ah.getD k default).owner),γ ((W.ah.getD k default).kind),γ ((W.ah.getD k default).spot.x),γ ((W.ah.getD k default).spot.y),γ (((W.ah.getD k default).df) - ((fE W l).getD k 0)),γ ((W.ah.getD k default).load)]) Z (λ _=>by kernel_rfl) Z λ KS aEt Ez aIc W8=> ?_;have uP:=J qK Ez;have aKr:=W8.lt;have vl:=((((vl.later uH).mod gT (bk KF)).later eZ).mod ry (bk KF)).later (J gx Ez);refine ap ajk Φ.cZ vl (aO.fu (R:=a8.rep) (by_:=56) (q:=(⟨(W.ah.getD k default).id,(W.ah.getD k default).owner,(W.ah.getD k default).kind,⟨(W.ah.getD k default).spot.x,(W.ah.getD k default).spot.y⟩,((W.ah.getD k default).df) - ((fE W l).getD k 0),(W.ah.getD k default).load⟩:a8)) W8 ⟨Z,by obtain ⟨tU,pk,rE,tV,tW,OA,Ul⟩:=dk k;exact ⟨tU,pk,rE,tV,tW,fZ,Ul⟩⟩ (by decide)) Z Z (by simp only [aMw,aMz];omega) (by simp only [aMw,aMz];omega) uP.size Z λ Pt aik al9 rz ake IZ aJe=> ?_;have uQ:=Ext.mod uP rz (λ q I=>(vl.lt q I).1);refine va Z<|nl<|cm<|eR Z Z Z<| ?_;have aR:ph W.ah (fE W l) (k+1)=ph W.ah (fE W l) k++ [(⟨(W.ah.getD k default).id,(W.ah.getD k default).owner,(W.ah.getD k default).kind,⟨(W.ah.getD k default).spot.x,(W.ah.getD k default).spot.y⟩,((W.ah.getD k default).df) - ((fE W l).getD k 0),(W.ah.getD k default).load⟩:a8)]:=by rw [aum vN];try rfl
    have a6:o_ W.ah (fE W l) (k+1)=o_ W.ah (fE W l) k:=by rw [ap1 vN];try rfl
    have ag:=(((((ag.later uH).mod gT aY).later eZ).mod ry aY).later (J gx Ez)).mod rz (λ I=>vC _ I rfl);have aF:=(((((aF.later uH).mod gT aY).later eZ).mod ry aY).later (J gx Ez)).mod rz (λ I=>xV _ I rfl);have n_:=(((n_.later eZ).mod ry (cY λ q I af=>by have:=At q I;have:=pB q I;omega)).later (J gx Ez)).mod rz (fX Fj);have bc:=(((((bc.later uH).mod gT (cY λ q I af=>by have:=B_ q I;have:=Ef q I;omega)).later eZ).mod ry (cY λ q I af=>by have:=B_ q I;have:=Ef q I;omega)).later (J gx Ez)).mod rz (fX xW);have vk:=(((((vk.later uH).mod gT (bk KG)).later eZ).mod ry (bk KG)).later (J gx Ez)).mod rz zC;exact lM _ _ ⟨k+1,aik,al9,eB,Im,Z,Z,uQ,ag,aF,n_,bc,(by rw [aR];exact ake),(by rw [a6];exact vk),by omega,(gp IZ vC),(gp IZ xV),(λ q I af=>by (exact aMS (IZ q I) (λ ab8=>by (exact xW q ab8 af)) (λ ab8=>by (have:=B_ q af;have:=Ef q af;omega)))),(λ q I af=>by (exact aMS (IZ q I) (λ ab9=>by (exact Fj q ab9 af)) (λ ab9=>by (have:=At q af;have:=pB q af;omega)))),Bb,MG,CZ,zB,(fX (oJ IZ (fX zC) KG))⟩ (by omega) (.cons Z (.cons Z (.cons Z (.cons Z (.cons Z (.cons (by rw [a6];rfl) (.cons (by rw [aR];rfl) (eV Z Z Z))))))))
   ·refine rg<|vm Z<|aa (ar FA Z)<|bA Z uT aZ Z<|b9 (e:= 3) (cs:= [γ ((W.ah.getD k default).id)]) Z (λ _=>by kernel_rfl) Z λ agJ aDP fK aHp WK=> ?_;have Hc:=J qK fK;have aJB:=WK.lt;have vk:=((((vk.later uH).mod gT (bk KG)).later eZ).mod ry (bk KG)).later (J gx fK);refine ap ajl Φ.cZ vk (aO.fu (R:=bz) (by_:=8) (q:=(W.ah.getD k default).id) WK ⟨Z,(dk k).1⟩ (by decide)) Z Z (by simp only [aMw,aMz];omega) (by simp only [aMw,aMz];omega) Hc.size Z λ aK6 ahS alF wv ajM IN aIE=> ?_;have aBt:=Ext.mod Hc wv (λ q I=>(vk.lt q I).1);refine va Z<|nl<|cm<|eR Z Z Z<| ?_;have aR:ph W.ah (fE W l) (k+1)=ph W.ah (fE W l) k:=by rw [aul vN];try rfl
    have a6:o_ W.ah (fE W l) (k+1)=o_ W.ah (fE W l) k++ [(W.ah.getD k default).id]:=by rw [ap0 vN];try rfl
    have ag:=(((((ag.later uH).mod gT aY).later eZ).mod ry aY).later (J gx fK)).mod wv (λ I=>Bb _ I rfl);have aF:=(((((aF.later uH).mod gT aY).later eZ).mod ry aY).later (J gx fK)).mod wv (λ I=>MG _ I rfl);have n_:=(((n_.later eZ).mod ry (cY λ q I af=>by have:=At q I;have:=pB q I;omega)).later (J gx fK)).mod wv (fX zB);have bc:=(((((bc.later uH).mod gT (cY λ q I af=>by have:=B_ q I;have:=Ef q I;omega)).later eZ).mod ry (cY λ q I af=>by have:=B_ q I;have:=Ef q I;omega)).later (J gx fK)).mod wv (fX CZ);have vl:=(((((vl.later uH).mod gT (bk KF)).later eZ).mod ry (bk KF)).later (J gx fK)).mod wv (fX zC);exact lM _ _ ⟨k+1,uS,Ip,ahS,alF,Z,Z,aBt,ag,aF,n_,bc,(by rw [aR];exact vl),(by rw [a6];exact ajM),by omega,vC,xV,xW,Fj,(gp IN Bb),(gp IN MG),(λ q I af=>by (exact aMS (IN q I) (λ JJ=>by (exact CZ q JJ af)) (λ JJ=>by (have:=B_ q af;have:=Ef q af;omega)))),(λ q I af=>by (exact aMS (IN q I) (λ JK=>by (exact zB q JK af)) (λ JK=>by (have:=At q af;have:=pB q af;omega)))),(oJ IN zC KF)⟩ (by omega) (.cons Z (.cons Z (.cons Z (.cons Z (.cons Z (.cons (by rw [a6];rfl) (.cons (by rw [aR];rfl) (eV Z Z Z))))))))
  ·refine er<|ep<|eY<|eo<|br<|aN Z<|aa (ar kf Z)<|fH Z Z ag Z IC Z Z λ aLd JX ag=> ?_;have aBz:=Ext.mod l0 JX bE;refine aJ<|aG<|aa (aA Z (ag.all fb cP))<|vm Z<| ?_;have aF:=aF.mod JX aY;refine c6 Z Z aF Z cP Z Z λ agK DQ aF=> ?_;have K8:=Ext.mod aBz DQ bE;refine va Z<|bL Z<|dR (.cell Z (aF.all fb cP) (.tmp Z (.tmp Z .nil)))<| ?_;have bc:=(bc.mod JX (bG T3)).mod DQ (bG T3);have vl:=(vl.mod JX (cY vC)).mod DQ (cY xV);have vk:=(vk.mod JX (cY Bb)).mod DQ (cY MG);obtain ⟨aR,a6⟩:=O4 yf (k:=k) (by omega);have aX:=bt.aeA (bc.down (by omega)) vl xW;refine ⟨{cV with T:=uS,t:=Ip},eB,Im,by rw [yf,aR,a6];rfl,by rw [aR];exact aX,by rw [a6];exact vk,λ q I=> ?_,K8⟩;intro hf;rcases apw hf with κ | κ
   ·exfalso;(exact CZ q I κ)
   ·exfalso;(exact zC q I κ)
end
section
variable {α:Type} {by_ c k:Nat} {w:World} {A:Option Addr} {t:a8} {l:List dT} {f:au}
theorem ajt:dL prog bz 46 3 8:=dL.jw (z:=γ 0) (k:=1) underlying46 wj rfl rfl (by decide) (λ j u h=>Ak j u h)
theorem Φ.aQ.kl {R:Φ α} {w':World} {l:List α} {F:List Nat} (h:R.aQ by_ w A c l) (hp:R.Plain) (m:Mod F w w') (d:0<l.length→∀ q∈Φ.ab A,q∉F):R.aQ by_ w' A c l:=by
 obtain ⟨κ,τ,aq,bb,ess,bT,cy,ec⟩:=h;refine ⟨κ,τ,aq,bb,ess,bT.imp (λ es a _ h=>R.rF (R.rG (hp (B:=0) h) (by simp))),cy,λ aB=> ?_⟩;obtain ⟨b,o,rfl,hc⟩:=ec aB;refine ⟨b,o,Z,λ j u hu=> ?_⟩;have ft:=hc j u hu;have af:b<w.heap.size:=by
  apply aPd;intro hn;have:w.heap[b]? =none:=aNo (by omega);simp [World.cell?,this] at ft
 have aj:=m.block b af (d aB b (by simp [Φ.ab]));simp only [World.cell?] at ft ⊢;rw [aj];exact ft
theorem Mo {T:List ai} (h:ai.rep.aQ 16 w A c T) (k:Nat):(T.getD k default).ok:=by
 rw [aMv];cases aC:T[k]? with
 | none=>exact ⟨by decide,by decide⟩
 | some t=>exact h.H6 (λ dN=>(show _∧_ from dN).2) t (aNi aC)
theorem OZ (h:t.ok):t.spot.ok:=by
 obtain ⟨κ,τ,aq,bb,bT,cy,ec⟩:=h;exact ⟨bb,bT⟩
theorem azq {c:ai} (h:t.ok) (hc:c.ok):(t.bg c).ok:=by
 obtain ⟨κ,τ,aq,bb,bT,cy,ec⟩:=h;exact ⟨κ,τ,aq,hc.1,hc.2,cy,ec⟩
theorem apZ {id:Int} (h:¬ ei l id<0):0≤ei l id∧(ei l id).toNat<l.length:=by
 rcases apY l id with ⟨κ,_⟩ | ⟨k,κ,τ,_⟩<;>omega
theorem ay6 {T:List a8} (h:ei l (T.getD k default).id<0):step1 f l T k=none:=by unfold step1;rw [aMI h]
theorem ay7 {T:List a8} (aB:0≤ei l (T.getD k default).id)
  (h:(eH f (T.getD k default).spot (l.getD (ei l (T.getD k default).id).toNat default).bg≠0∨((cQ f (T.getD k default).spot (l.getD (ei l (T.getD k default).id).toNat default).bg).length:Int)<2)∨0<ia T ((cQ f (T.getD k default).spot (l.getD (ei l (T.getD k default).id).toNat default).bg).getD 1 default)):step1 f l T k=none:=by
 unfold step1;rw [aMA (by omega)];split
 ·rfl
 ·split
  ·rfl
  ·rw [aMI];rcases h with (h | h) | h
   ·contradiction
   ·omega
   ·exact h
theorem ay8 {T:List a8} (aB:0≤ei l (T.getD k default).id)
  (h:(eH f (T.getD k default).spot (l.getD (ei l (T.getD k default).id).toNat default).bg=0∧2≤((cQ f (T.getD k default).spot (l.getD (ei l (T.getD k default).id).toNat default).bg).length:Int))∧ia T ((cQ f (T.getD k default).spot (l.getD (ei l (T.getD k default).id).toNat default).bg).getD 1 default)≤0):
  step1 f l T k=some ((cQ f (T.getD k default).spot (l.getD (ei l (T.getD k default).id).toNat default).bg).getD 1 default):=by
 obtain ⟨⟨κ,τ⟩,aq⟩:=h;unfold step1;rw [aMA (by omega),aMA (by simpa using κ),aMA (by omega),aMA (by omega)]
theorem Φ.aQ.au8 {R:Φ α} {l:List α} (h:R.aQ by_ w A c l) (hs:0<R.size) (aB:0<l.length):∀ q∈Φ.ab A,q<w.heap.size:=by
 obtain ⟨κ,τ,aq,bb,ess,bT,cy,ec⟩:=h;obtain ⟨b,o,rfl,hc⟩:=ec aB;intro q I;obtain rfl:q=b:=by simpa [Φ.ab] using I
 have ay:0<ess.flatten.length:=by rw [cy];exact Nat.mul_pos aB hs
 have ft:=hc 0 _ (aMy ay);apply aPd;intro hn;have:w.heap[q]? =none:=aNo (by omega);simp [World.cell?,this] at ft
theorem asY (kh:FuncId) (cs:List Value) (p:dT→Bool) (A:Option Addr) (c:Nat) (l:List dT) (w:World) (ay:dT.rep.aQ 24 w A c l) (I2:Enters prog kh) (j2:∀ x∈l,∀ w',Ext w w'→Calls prog kh (([.agg #[γ x.id,γ x.bg.x,γ x.bg.y]]:List Value)++cs).toArray w' λ e kp=>e= .returned (.bool (p x))∧Ext w' kp):
  Calls prog 141 #[.slice A l.length c, .func (.func kh) #[] cs.toArray] w (λ e w'=>e= .returned (γ (hb p l))∧Ext w w'):=by
 have F':=ay.km;refine cx (n:=19) func141 Z Z Z ?_;refine aG<|aU Z<|aI<|aN Z<|aa (dC underlying144 Z)<|vm Z<|aJ<|bV<| ?_;refine gh (λ cL cw aV=>∃ k:Nat,cw= [(0, .slice A l.length c),(1, .func (.func kh) #[] cs.toArray),(7,γ (l.length:Int)),(8,γ (k:Int))]∧cL=l.length - k∧Ext w aV∧(k≤l.length)∧(∀ i,i<k→p (l.getD i default)=false)) _ _ ⟨0,Z,Z,(Ext.bM w),by omega,λ i ak=>by omega⟩ (eV Z Z Z) ?_;rintro wA Ht dn ⟨k,rfl,rfl,dK,aj,aT⟩;refine aG<|fI Z Z<|aJ<|aI<| ?_;refine fM Z (λ SL=> ?_) (λ SL=> ?_)
 ·refine bF<|aI<|bV<|aN Z<|aU Z<|aN Z<|vm Z<|vm Z<|aa (bX k underlying144 RL Z Z ((ay.keep dK).bx (a1 k)) Z (by omega))<|aa (aA Z (Φ.aQ.jG aa4 ((ay.keep dK).ck (a1 k)) (cl (l:=l) (u:=default) (by omega)) aoT RL))<|Rb I2 Z Z Z ((j2 (l.getD k default) (mU (by omega)) _ dK).mono ?_);rintro e agR ⟨rfl,dZ⟩;refine cK ?_;have EF:=J dK dZ;refine aJ<| ?_;refine c_ Z (λ Df=> ?_) (λ Df=> ?_)
  ·refine aN Z<|bL Z<|hk<|cW<|Ee<|hk<|cW<|c' Z Z<| ?_;exact ⟨by have e:=as4 (p:=p) (l:=l) (d:=default) (k:=k) (by omega) Df aT;rw [e];rfl,EF⟩
  ·refine gb<|cm<|eR Z Z Z<| ?_;exact fh ⟨k+1,Z,Z,EF,by omega,DK aT Df⟩
 ·refine er<|ep<|eY<|eo<|br<|aG<|bL Z<|c' Z Z<| ?_;exact ⟨by have e:=as2 (p:=p) (l:=l) (d:=default) (λ i ak=>aT i (by omega));rw [e];rfl,dK⟩
theorem avv (x:dT) (b k:Nat) (A:Option Addr) (c:Nat) (T:List a8) (w:World) (aE:aO w b [.pointer (some ⟨et A,jO A+k * 7,none⟩)] 214 (0,0)) (aX:a8.rep.aQ 56 w A c T) (aj:k<T.length):
  Calls prog 142 #[.agg #[γ x.id,γ x.bg.x,γ x.bg.y], .pointer (a_ b)] w (λ e w'=>e= .returned (.bool (x.id == (T.getD k default).id))∧Ext w w'):=by
 refine cx (n:=11) func142 Z Z Z ?_;refine eW Z Z λ dn bw bm fO ag=> ?_;refine aU Z<|aI<| ?_;refine du [(1,0),(2,0),(5,0)] [0,1,2,3,4,5,6,7] ?_;refine ax Z (λ _=>ar aoU Z)<|cO Z Z ag aZ Z<| ?_;have aE:=aE.later bm;refine cO Z Z aE FC Z<|ax Z (λ _=>b1 Z)<|ax Z (λ _=>ar FA Z)<|cR Z (λ _ x=>aA Z (Φ.aQ.oh jo ((aX.keep (J bm x)).ck (a1 k)) 0 (cl (l:=T) (u:=default) (by omega)) Z aZ))<|ax Z (λ _=>beq Z Z)<|ax Z (λ _=>eQ Z)<|fn λ fP d_=> ?_;have b7:=J bm d_;refine br<|rt<|c' Z Z<| ?_;exact ⟨Z,b7⟩
theorem avu (b k:Nat) (l:List dT) (A:Option Addr) (c:Nat) (L2:Option Addr) (tc:Nat) (T:List a8) (w:World) (ay:dT.rep.aQ 24 w A c l) (aE:aO w b [.pointer (some ⟨et L2,jO L2+k * 7,none⟩)] 214 (0,0)) (aX:a8.rep.aQ 56 w L2 tc T) (aj:k<T.length):
  Calls prog 141 #[.slice A l.length c, .func (.func 142) #[] #[.pointer (a_ b)]] w (λ e w'=>e= .returned (γ (ei l (T.getD k default).id))∧Ext w w'):=
 asY 142 [.pointer (a_ b)] (λ g=>g.id == (T.getD k default).id) A c l w ay aoV (λ x hx w' h=>avv x b k L2 tc T w' (aE.later h) (aX.keep h) aj)
theorem azc (w0:World) (a:ae.cU) (W:ae) (A:Option Addr) (c:Nat) (l:List dT) (w:World) (bJ:bz.aQ 8 w a.P a.p W.field.places) (aX:a8.rep.aL 108 56 w w0.heap.size (Φ.ab a.T) a.T a.t W.ah) (aq1:∀ q∈Φ.ab a.P,q∉Φ.ab a.T) (ay:dT.rep.aQ 24 w A c l) (F6:0<l.length→∀ q∈Φ.ab A,q∉Φ.ab a.T) (BD:W.ah.length≤100000):
  Calls prog 119 #[.agg ((ae.cells a W).toArray), .slice A l.length c] w (λ e w'=>∃ bR cn,e= .returned (.slice bR (W.kY l).2.length cn)∧bz.aL 3 8 w' w.heap.size (Φ.ab bR) bR cn (W.kY l).2∧a8.rep.aL 108 56 w' w0.heap.size (Φ.ab a.T) a.T a.t (W.kY l).1.ah∧Mod (Φ.ab a.T) w w'):=by
 have KA:=bY aX.lt;have abD:=Va aX.has;refine cx (n:=110) func119 Z Z Z ?_;refine eW Z Z λ dn bw bm fO ag=> ?_;have dK:=(Mod.bM (Φ.ab a.T) w).trans (Mod.aP bm);have ja:=ag.lt;refine aU Z<|aG<|Ug Z λ fP yG bD j8 ajo=> ?_;have b7:=dK.trans (Mod.aP bD);have aiy:=jY.of_nil ajo;refine aU Z<|aI<|aG<|aa (ar kf Z)<| ?_;have ag:=ag.later bD;refine bA Z ag l9 Z<|aa (dC underlying50 Z)<|vm Z<|aJ<|bV<| ?_;have aX:=aX.later (J bm bD);refine gh (λ cL cw aV=>∃ k:Nat,cw= [(1, .slice A l.length c),(2, .pointer (a_ bw)),(4, .slice none 0 0),(5, .map (some yG)),(17, .slice a.T W.ah.length a.t),(18,γ (W.ah.length:Int)),(19,γ (k:Int))]∧cL=W.ah.length - k∧Mod (Φ.ab a.T) w aV∧a8.rep.aL 108 56 aV w0.heap.size (Φ.ab a.T) a.T a.t (W.ah)∧aO aV bw (ae.cells a W) 52 (0,0)∧jY aV yG (ia (W.ah.take k))∧(k≤W.ah.length)) _ _ ⟨0,Z,Z,b7,aX,ag,aiy,by omega⟩ (eV Z Z Z) ?_;rintro BL aC0 sM ⟨k,rfl,rfl,iR,aX,ag,hI,aj⟩;have KC:=bY aX.lt;have yF:=ag.lt;have axv:=hI.lt;refine aG<|fI Z Z<|aJ<|aI<| ?_;refine fM Z (λ vL=> ?_) (λ vL=> ?_)
 ·refine bF<|aI<|bV<|aG<|aa (bX k underlying50 kg Z Z (aX.has.bx (a1 k)) Z (by omega))<|aa (aA Z (Φ.aQ.jG jo (aX.has.ck (a1 k)) (cl (l:=W.ah) (u:=default) (by omega)) zI kg))<|dj Fz Z λ uk td dS adB eg=> ?_;have ka:=iR.trans (Mod.aP dS);refine c6 Z Z eg Z kg Z Z λ Au jN eg=> ?_;have jd:=ka.md jN (λ q I=> .inr (by have:=aMu.1 I;omega));refine aJ<| ?_;have hI:=(hI.later dS).mod jN aY;refine UG yG (ia (W.ah.take k)) [(2,0),(3,0),(5,2),(7,3)] [0,1,2,3,4,5,6,7] (by kernel_rfl) (by kernel_rfl) ?_;refine q_ Z Z (λ _=>jx Z) Z<|q_ Z Z (λ _=>ar q6 Z) Z<|Bo Z Z (λ _ x=>aA Z ((eg.mod x.1 aY).par [γ ((W.ah.getD k default).spot.x),γ ((W.ah.getD k default).spot.y)] b0 bs Z)) Z<|Bo Z Z (λ _ x=>Oc (p:=(W.ah.getD k default).spot) (x.2 hI) (OZ (abD k)) Z Z) Z<|q_ Z Z (λ _=>bad Z Z (la ((by have κ:=OB (W.ah.take k) ((W.ah.getD k default).spot);(try rw [aME] at κ);omega)))) Z<|R2 Z Z Z λ G1 fU Q hK=>meC (p:=(W.ah.getD k default).spot) (hI.later fU) (OZ (abD k)) Z Z Z λ xc aKI wG P8=>hK _ _ ⟨(n'.aP fU).trans ⟨wG,λ _=>P8.map⟩, ?_⟩;have rR:=jd.trans (Mod.aP fU);have jT:=rR.md wG (λ q I=> .inr (by have:=aMu.1 I;omega));have aCR:=P8.map;refine q_ Z Z (λ _=>ex Z Z) Z<|RP Z Z Z λ xd iq Q hK=>RN (P8.later iq) Z Z Z λ xe tQ P5=>hK _ _ ?_;have nk:=jT.trans (Mod.aP iq);have k2:=nk.md tQ (λ q I=> .inr (by have:=aMu.1 I;omega));refine RX λ aMk PF=> ?_;have aCs:=k2.trans (Mod.aP PF);refine cm<|eR Z Z Z<| ?_;have aX:=((((((aX.later dS).mod jN (cY λ q I af=>by have:=KC q I;have:=KA q I;omega)).later fU).mod wG (cY λ q I af=>by have:=KC q I;have:=KA q I;omega)).later iq).mod tQ (cY λ q I af=>by have:=KC q I;have:=KA q I;omega)).later PF;have ag:=((((((ag.later dS).mod jN aY).later fU).mod wG aY).later iq).mod tQ aY).later PF;have P5:=P5.later PF;exact fh ⟨k+1,Z,Z,aCs,aX,ag,(by rw [aws (by omega)];exact P5),by omega⟩
 ·refine er<|ep<|eY<|eo<|br<|aG<|aU Z<|aI<|aG<|aa (ar kf Z)<|bA Z ag l9 Z<|aa (dC underlying50 Z)<|vm Z<|aJ<|bV<| ?_;have mL:k=W.ah.length:=by omega
  subst mL;have Xt:jY sM yG (ia W.ah):=by have h:=hI;rw [aOk] at h;exact h
  refine gh (λ cL cw aV=>∃ k:Nat,∃ T:List a8,∃ M:List Int,∃ xv:Option Addr,∃ Fa:Nat,cw= [(1, .slice A l.length c),(2, .pointer (a_ bw)),(4, .slice none 0 0),(5, .map (some yG)),(8, .slice xv M.length Fa),(33,γ (W.ah.length:Int)),(34,γ (k:Int))]∧cL=W.ah.length - k∧Mod (Φ.ab a.T) w aV∧aO aV bw (ae.cells a W) 52 (0,0)∧jY aV yG (ia T)∧a8.rep.aL 108 56 aV w0.heap.size (Φ.ab a.T) a.T a.t (T)∧bz.aL 3 8 aV w.heap.size (Φ.ab xv) xv Fa (M)∧(k≤W.ah.length)∧(iA W.field l W.ah k=(T,M))∧(T.length=W.ah.length)∧(M.length≤k)∧(∀ q∈Φ.ab a.T,q=bw→False)∧(∀ q∈Φ.ab a.T,q=yG→False)∧(∀ q∈Φ.ab xv,q=bw→False)∧(∀ q∈Φ.ab xv,q=yG→False)∧(∀ q∈Φ.ab xv,q∈Φ.ab a.T→False)) _ _ ⟨0,W.ah, [],none,0,Z,Z,iR,ag,Xt,aX,(Φ.aL.nil _),by omega,rfl,rfl,by simp,(λ q I af=>by (have:=KC q I;have:=KA q I;omega)),(λ q I af=>by (have:=KC q I;have:=KA q I;omega)),(λ q I af=>by (simp [Φ.ab] at I)),(λ q I af=>by (simp [Φ.ab] at I)),(λ q I af=>by (simp [Φ.ab] at I))⟩ (eV Z Z Z) ?_;rintro D0 aDg Eo ⟨k,T,M,xv,Fa,rfl,rfl,pJ,ag,M2,dG,mF,aj,hS,Sz,aFD,od,pX,sf,mI,mJ⟩;have aKf:=ag.lt;have aKg:=M2.lt;have Vi:=bY dG.lt;have Vj:=bY mF.lt;have NR:=Va dG.has;refine aG<|fI Z Z<|aJ<|aI<| ?_;refine fM Z (λ I'=> ?_) (λ I'=> ?_)
  ·refine bF<|aI<|bV<|aN Z<|aU Z<|aG<|aa (ar kf Z)<|bA Z ag l9 Z<|vm Z<|aa (bX k underlying50 kg Z Z (dG.has.bx (a1 k)) Z (by omega))<|dj aoW Z λ Pp XZ iP aH5 lu=> ?_;have AO:=pJ.trans (Mod.aP iP);have aKj:=lu.lt;refine st (new:= [.pointer (some ⟨et a.T,jO a.T+k * 7,none⟩)]) Z Z lu Z anB Z Z Z λ VG qs lu=> ?_;have:=qs.size;have uO:=AO.md qs (λ q I=> .inr (by have:=aMu.1 I;omega));refine aJ<|aN Z<|aa (J_ Z Z)<| ?_;have dG:=(dG.later iP).mod qs (bk Vi);refine de anC Z (avu XZ k l A c a.T a.t T _ (ay.kl (Φ.cZ).1 uO F6) lu dG.has (by omega)) λ Ps gx=> ?_;have:=gx.size;have qK:=uO.trans (Mod.aP gx);refine aU Z<|aI<|aN Z<|fI Z Z<|aJ<| ?_;refine fM Z (λ vN=> ?_) (λ vN=> ?_)
   ·refine er<|ep<|eo<|eR Z Z Z<| ?_;have ee:=ud (tO iP qs) gx;have ag:=ag.mod ee aY;have M2:=M2.mod ee aY;have dG:=dG.later gx;have mF:=mF.mod ee (bk Vj);exact fh ⟨k+1,T,M,xv,Fa,Z,Z,qK,ag,M2,dG,mF,by omega,GO hS (ay6 vN),Sz,by omega,od,pX,sf,mI,mJ⟩
   ·obtain ⟨Bx,Tf⟩:=apZ vN;refine bF<|aI<| ?_;refine du [(1,0),(2,0),(5,0),(10,0),(11,2)] [0,1,2,3,4,5,6,7,8,9,10,11,12,13,14,15,16,17,18] ?_;refine ax Z (λ _=>ar pZ Z)<| ?_;have ag:=((ag.later iP).mod qs aY).later gx;refine cR Z (λ _ x=>aA Z ((ag.later x).par [γ W.field.wide,γ W.field.high, .slice a.P W.field.places.length a.p] gZ gy Z))<| ?_;have lu:=lu.later gx;refine cO Z Z lu FC Z<|ax Z (λ _=>b1 Z)<|ax Z (λ _=>ar q6 Z)<| ?_;have dG:=dG.later gx;refine cR Z (λ _ x=>aA Z (Φ.aQ.part jo ((dG.later x).has.ck (a1 k)) 3 (ds:= [γ ((T.getD k default).spot.x),γ ((T.getD k default).spot.y)]) (cl (l:=T) (u:=default) (by omega)) Z b0 bs))<|bn Z Z<|bn Z Z<|ax Z (λ _=>bX ((ei l (T.getD k default).id).toNat) underlying144 RL Z Z ((ay.kl (Φ.cZ).1 qK F6).bx (a1 ((ei l (T.getD k default).id).toNat))) (by omega) (by omega))<|ax Z (λ _=>ar anD Z)<|cR Z (λ _ x=>aA Z (Φ.aQ.part aa4 ((ay.kl (Φ.cZ).1 (qK.trans (Mod.aP x)) F6).ck (a1 ((ei l (T.getD k default).id).toNat))) 1 (ds:= [γ ((l.getD ((ei l (T.getD k default).id).toNat) default).bg.x),γ ((l.getD ((ei l (T.getD k default).id).toNat) default).bg.y)]) (cl (l:=l) (u:=default) (by omega)) Z b0 bs))<|fS Z Z Z λ KS gQ Q hK=>ca Zn Z Z ((aeX W.field ((T.getD k default).spot) ((l.getD ((ei l (T.getD k default).id).toNat) default).bg) _ _ _ (bJ.kl (Φ.cZ).1 (qK.trans (Mod.aP gQ)) (λ _=>aq1))).mono ?_);rintro e KT ⟨aDH,aMt,rfl,xJ,mB⟩;refine ⟨_,Z,hK _ _ ⟨J gQ mB, ?_⟩⟩;have:=gQ.size;have uP:=qK.trans (Mod.aP gQ);have:=mB.size;have y2:=uP.trans (Mod.aP mB);have aeb:=dJ xJ.lt;have N0:=xJ.has;refine bn Z Z<|ax Z (λ _=>ex Z Z)<|ax Z (λ _=>ex Z Z)<|ax Z (λ _=>ex Z Z)<|ax Z (λ _=>eQ Z)<|ax Z (λ _=>eQ Z)<|ax Z (λ _=>eQ Z)<|fn λ aAz yY=> ?_;have:=yY.size;have PN:=y2.trans (Mod.aP yY);refine br<|aI<|aN Z<|gJ Z Z<|vm Z<|gw Z Z<|cb Z (λ hc=>dC underlying49 (gt hc Z))<|cb Z (λ hc=>blt (gt hc Z) Z)<|aa (gq Z Z Z Z)<|vm Z<|gw Z Z<|gw Z Z<| ?_;have xJ:=xJ.later yY;refine cb Z (λ hc=>bX 1 underlying49 bs (gt hc Z) Z (xJ.has.bx (a1 1 (by (try simp only [cq] at hc);omega))) Z (by (try simp only [cq] at hc);omega))<|cb Z (λ hc=>aA (gt hc Z) (Φ.aQ.jG vP (xJ.has.ck (a1 1 (by (try simp only [cq] at hc);omega))) (cl (l:=cQ W.field ((T.getD k default).spot) ((l.getD ((ei l (T.getD k default).id).toNat) default).bg)) (u:=default) (by (try simp only [cq] at hc);omega)) b0 bs))<| ?_;have M2:=((M2.later iP).mod qs aY).later (J gx (J gQ (J mB yY)));refine cb Z (λ hc=>Oc (p:=(cQ W.field ((T.getD k default).spot) ((l.getD ((ei l (T.getD k default).id).toNat) default).bg)).getD 1 default) M2 (Mo N0 1) (gt hc Z) (gt hc Z))<|cb Z (λ hc=>iv (gt hc Z) Z)<|aa (gq Z Z Z Z)<|aJ<| ?_;refine c_ Z (λ Jd=> ?_) (λ Jd=> ?_)
    ·simp only [cq] at Jd;refine er<|ep<|eo<|eR Z Z Z<| ?_;have lg:=(J gQ (J mB yY));have ag:=ag.later lg;have dG:=dG.later lg;have mF:=((mF.later iP).mod qs (bk Vj)).later (J gx (J gQ (J mB yY)));exact fh ⟨k+1,T,M,xv,Fa,Z,Z,PN,ag,M2,dG,mF,by omega,GO hS (ay7 (by omega) Jd),Sz,by omega,od,pX,sf,mI,mJ⟩
    ·simp only [cq] at Jd;refine bF<|aI<| ?_;refine UG yG (ia T) [(1,0),(4,0),(5,0),(7,2),(9,3)] [0,1,2,3,4,5,6,7,8,9] (by kernel_rfl) (by kernel_rfl) ?_;refine q_ Z Z (λ _=>jx Z) Z<| ?_;have lu:=lu.later (J gQ (J mB yY));refine Bo Z Z (λ _ x=>aA Z ((lu.mod x.1 aY).one FC Z)) Z<|q_ Z Z (λ _=>b1 Z) Z<|q_ Z Z (λ _=>ar q6 Z) Z<| ?_;have dG:=dG.later (J gQ (J mB yY));refine Bo Z Z (λ _ x=>aA Z (Φ.aQ.part jo ((dG.mod x.1 (cY pX)).has.ck (a1 k)) 3 (ds:= [γ ((T.getD k default).spot.x),γ ((T.getD k default).spot.y)]) (cl (l:=T) (u:=default) (by omega)) Z b0 bs)) Z<|Bo Z Z (λ _ x=>Oc (p:=(T.getD k default).spot) (x.2 M2) (OZ (NR k)) Z Z) Z<|q_ Z Z (λ _=>iH Z Z (la ((by have κ:=OB T ((T.getD k default).spot);(try rw [aME] at κ);omega)))) Z<|R2 Z Z Z λ aAA ks Q hK=>meC (p:=(T.getD k default).spot) (M2.later ks) (OZ (NR k)) Z Z Z λ agI aKG lJ P6=>hK _ _ ⟨(n'.aP ks).trans ⟨lJ,λ _=>P6.map⟩, ?_⟩;have:=ks.size;have Wj:=PN.trans (Mod.aP ks);have:=lJ.size;have Hb:=Wj.md lJ (λ q I=> .inr (by have:=aMu.1 I;omega));have aCP:=P6.map;refine q_ Z Z (λ _=>ex Z Z) Z<|RP Z Z Z λ Vt fK Q hK=>RN (P6.later fK) Z Z Z λ Vu yz Lk=>hK _ _ ?_;have:=fK.size;have EB:=Hb.trans (Mod.aP fK);have:=yz.size;have EC:=EB.md yz (λ q I=> .inr (by have:=aMu.1 I;omega));refine RX λ aK7 Cf=> ?_;have:=Cf.size;have aBu:=EC.trans (Mod.aP Cf);refine br<|aI<| ?_;refine du [(0,0),(3,0),(6,3)] [0,1,2,3,4,5,6] ?_;have lu:=((((lu.later ks).mod lJ aY).later fK).mod yz aY).later Cf;refine cO Z Z lu FC Z<|bn Z Z<| ?_;have xJ:=((((xJ.later ks).mod lJ (bG aeb)).later fK).mod yz (bG aeb)).later Cf;refine ax Z (λ _=>bX 1 underlying49 bs Z Z (xJ.has.bx (a1 1)) Z (by omega))<|cR Z (λ _ x=>aA Z (Φ.aQ.jG vP ((xJ.later x).has.ck (a1 1)) (cl (l:=cQ W.field ((T.getD k default).spot) ((l.getD ((ei l (T.getD k default).id).toNat) default).bg)) (u:=default) (by omega)) b0 bs))<|ax Z (λ _=>b1 Z)<|ax Z (λ _=>ar q6 Z)<| ?_;have dG:=((((dG.later ks).mod lJ (cY pX)).later fK).mod yz (cY pX)).later Cf;refine dA Z Z Z λ aAe Ev Q hK=>ayW (q:=(T).getD k default) (q':=(⟨((T).getD k default).id,((T).getD k default).owner,((T).getD k default).kind,⟨((cQ W.field ((T.getD k default).spot) ((l.getD ((ei l (T.getD k default).id).toNat) default).bg)).getD 1 default).x,((cQ W.field ((T.getD k default).spot) ((l.getD ((ei l (T.getD k default).id).toNat) default).bg)).getD 1 default).y⟩,((T).getD k default).df,((T).getD k default).load⟩:a8)) (i:=k) (j:=3) (old:= [γ (((T).getD k default).id),γ (((T).getD k default).owner),γ (((T).getD k default).kind),γ (((T).getD k default).spot.x),γ (((T).getD k default).spot.y),γ (((T).getD k default).df),γ (((T).getD k default).load)]) (part:= [γ (((cQ W.field ((T.getD k default).spot) ((l.getD ((ei l (T.getD k default).id).toNat) default).bg)).getD 1 default).x),γ (((cQ W.field ((T.getD k default).spot) ((l.getD ((ei l (T.getD k default).id).toNat) default).bg)).getD 1 default).y)]) (dG.later Ev) Φ.cZ (cl (l:=T) (u:=default) (by omega)) jo Z Z Z Z Z Z (λ _=>⟨Z,(azq (NR k) (Mo N0 1))⟩) bs λ aAf Gt zm=>hK _ _ ?_;have:=Ev.size;have PI:=aBu.trans (Mod.aP Ev);have:=Gt.size;have V0:=PI.md Gt (λ q I=> .inl I);refine fn λ aLc xj=> ?_;have:=xj.size;have aBy:=V0.trans (Mod.aP xj);refine br<|aI<| ?_;have Lk:=((Lk.later (J Cf Ev)).mod Gt (λ I=>pX _ I rfl)).later xj;refine UG yG (rK (ia T) ((T.getD k default).spot) (((ia T) ((T.getD k default).spot)) - 1)) [(1,0),(4,0),(5,0),(7,2),(9,3)] [0,1,2,3,4,5,6,7,8,9] (by kernel_rfl) (by kernel_rfl) ?_;refine q_ Z Z (λ _=>jx Z) Z<| ?_;have lu:=lu.later Ev;have amI:∀ q∈Φ.ab a.T,q=XZ→False:=λ q I af=>by (have:=Vi q I;omega)
     have lu:=(lu.mod Gt (λ I=>amI _ I rfl)).later xj;refine Bo Z Z (λ _ x=>aA Z ((lu.mod x.1 aY).one FC Z)) Z<|q_ Z Z (λ _=>b1 Z) Z<|q_ Z Z (λ _=>ar q6 Z) Z<| ?_;have zm:=zm.later xj;refine Bo Z Z (λ _ x=>aA Z (Φ.aQ.part jo ((zm.mod x.1 (cY pX)).has.ck (a1 k (by rw [aMM];omega))) 3 (ds:= [γ (((T.getD k default).bg ((cQ W.field (T.getD k default).spot (l.getD (ei l (T.getD k default).id).toNat default).bg).getD 1 default)).spot.x),γ (((T.getD k default).bg ((cQ W.field (T.getD k default).spot (l.getD (ei l (T.getD k default).id).toNat default).bg).getD 1 default)).spot.y)]) (aNg (by omega)) Z b0 bs)) Z<|Bo Z Z (λ _ x=>Oc (p:=((T.getD k default).bg ((cQ W.field (T.getD k default).spot (l.getD (ei l (T.getD k default).id).toNat default).bg).getD 1 default)).spot) (x.2 Lk) (Mo N0 1) Z Z) Z<|q_ Z Z (λ _=>bad Z Z (la ((by have aB:=OB T ((T.getD k default).spot);have κ:=azX (x:=((T.getD k default).spot)) (v:=(((ia T) ((T.getD k default).spot)) - 1)) (OB T) (by omega) (by omega) (((T.getD k default).bg ((cQ W.field (T.getD k default).spot (l.getD (ei l (T.getD k default).id).toNat default).bg).getD 1 default)).spot);omega)))) Z<|R2 Z Z Z λ aAh Cg Q hK=>meC (p:=((T.getD k default).bg ((cQ W.field (T.getD k default).spot (l.getD (ei l (T.getD k default).id).toNat default).bg).getD 1 default)).spot) (Lk.later Cg) (Mo N0 1) Z Z Z λ agK aKH DR P7=>hK _ _ ⟨(n'.aP Cg).trans ⟨DR,λ _=>P7.map⟩, ?_⟩;have:=Cg.size;have V2:=aBy.trans (Mod.aP Cg);have:=DR.size;have K8:=V2.md DR (λ q I=> .inr (by have:=aMu.1 I;omega));have aCQ:=P7.map;refine q_ Z Z (λ _=>ex Z Z) Z<|RP Z Z Z λ aAk Ex Q hK=>RN (P7.later Ex) Z Z Z λ aAl yA Ll=>hK _ _ ?_;have:=Ex.size;have V5:=K8.trans (Mod.aP Ex);have:=yA.size;have V6:=V5.md yA (λ q I=> .inr (by have:=aMu.1 I;omega));have aJI:=Ll.lt;refine RX λ aLm xk=> ?_;have:=xk.size;have aBF:=V6.trans (Mod.aP xk);refine br<|rg<|vm Z<| ?_;have lu:=((((lu.later Cg).mod DR aY).later Ex).mod yA aY).later xk;refine bA Z lu FC Z<|aa (b1 Z)<|aa (ar FA Z)<| ?_;have zm:=((((zm.later Cg).mod DR (cY pX)).later Ex).mod yA (cY pX)).later xk;refine aa (aA Z (Φ.aQ.oh jo (zm.has.ck (a1 k (by rw [aMM];omega))) 0 (aNg (by omega)) Z aZ))<|b9 (e:= 3) (cs:= [γ (((T.getD k default).bg ((cQ W.field (T.getD k default).spot (l.getD (ei l (T.getD k default).id).toNat default).bg).getD 1 default)).id)]) Z (λ _=>by kernel_rfl) Z λ aLo aDY kH aHB WS=> ?_;have aBH:=aBF.trans (Mod.aP kH);have aJK:=WS.lt;have mF:=((((((((((((mF.later iP).mod qs (bk Vj)).later (J gx (J gQ (J mB (J yY ks))))).mod lJ (cY mI)).later fK).mod yz (cY mI)).later (J Cf Ev)).mod Gt mJ).later (J xj Cg)).mod DR (cY mI)).later Ex).mod yA (cY mI)).later (J xk kH);refine ap ajt Φ.cZ mF (aO.fu (R:=bz) (by_:=8) (q:=((T.getD k default).bg ((cQ W.field (T.getD k default).spot (l.getD (ei l (T.getD k default).id).toNat default).bg).getD 1 default)).id) WS ⟨Z,cH.2 (cH.1 (NR k).1)⟩ (by decide)) Z Z (by simp only [aMw,aMz];omega) (by simp only [aMw,aMz];omega) (by omega) Z λ aLr ahX alJ Ok ajQ R7 aIK=> ?_;have aBJ:=aBH.md Ok (λ q I=> .inr ((λ q I=>aMR (by omega) (mF.lt q I).1) q I));refine va Z<|nl<|cm<|eR Z Z Z<| ?_;have Sw:=GQ hS (ay8 (by omega) Jd);have ag:=(((((((((((ag.later (J gQ (J mB (J yY ks)))).mod lJ aY).later fK).mod yz aY).later (J Cf Ev)).mod Gt (λ I=>od _ I rfl)).later (J xj Cg)).mod DR aY).later Ex).mod yA aY).later (J xk kH)).mod Ok (λ I=>sf _ I rfl);have Ll:=(Ll.later (J xk kH)).mod Ok (λ I=>mI _ I rfl);have zm:=(zm.later kH).mod Ok (fX mJ);exact fh ⟨k+1,(T).set k ((⟨((T).getD k default).id,((T).getD k default).owner,((T).getD k default).kind,⟨((cQ W.field ((T.getD k default).spot) ((l.getD ((ei l (T.getD k default).id).toNat) default).bg)).getD 1 default).x,((cQ W.field ((T.getD k default).spot) ((l.getD ((ei l (T.getD k default).id).toNat) default).bg)).getD 1 default).y⟩,((T).getD k default).df,((T).getD k default).load⟩:a8)),M++ [((T.getD k default).bg ((cQ W.field (T.getD k default).spot (l.getD (ei l (T.getD k default).id).toNat default).bg).getD 1 default)).id],ahX,alJ,Z,Z,aBJ,ag,(by rw [awq (by omega)];exact Ll),zm,ajQ,by omega,Sw,by rw [aMM];exact Sz,by rw [aMB,aOR];omega,od,pX,(gp R7 sf),(gp R7 mI),(oJ R7 mJ Vi)⟩
  ·refine er<|ep<|eY<|eo<|br<|aN Z<|bL Z<|c' Z Z<| ?_;have mL:k=W.ah.length:=by omega
   subst mL;have aR:(W.kY l).2=M:=by show (iA _ _ _ _).2=M;rw [hS]
   have a6:(W.kY l).1.ah=T:=by show (iA _ _ _ _).1=T;rw [hS]
   exact ⟨xv,Fa,by rw [aR];rfl,by rw [aR];exact mF,by rw [a6];exact dG,pJ⟩
end
section
variable {k:Bool}
open Go.Proofs.YthlpmldmhakhaaaGreatDoor.qM
def nR (e:Int):List PanicEntry:= [{v:= .iface 66 (.agg #[γ e]),recovered:=false}]
theorem aA1 {A:Option Addr} {c lo s q:Nat} (h:q∈Φ.ab (ez A c lo s)):q∈Φ.ab A:=by
 unfold ez at h;split at h
 ·exact h
 ·cases A with
  | none=>exact h
  | some a =>
   have e:(a.add (lo * s)).block=a.block:=by unfold Addr.add;split<;>rfl
   have h:q∈ [(a.add (lo * s)).block]:=h;rw [e] at h;exact h
structure lv (w:World):Prop where
 m:∃ m:Int,w.cell? ⟨0,0,none⟩=some (γ m)
 p:Lib.TabIs prog w "internal/strconv.uint64pow10" .u64 Lib.pow10Tab
 s:∃ v,w.cell? ⟨6,0,none⟩=some v∧(v= .nilIface∨∃ te D6,v= .iface te D6)
 r:∃ v,w.cell? ⟨7,0,none⟩=some v∧(v= .nilIface∨∃ te D6,v= .iface te D6)
theorem Q8 {w w':World} {p:Addr} {v:Value} (h:w.cell? p=some v) (x:Ext w w'):w'.cell? p=some v:=(x.cell (show p.block<w.heap.size from Lib.lt_of_cell h)).trans h
theorem lv.keep {w w':World} (h:lv w) (x:Ext w w'):lv w' :=
 ⟨by obtain ⟨m,h⟩:=h.m;exact ⟨m,Q8 h x⟩,Lib.tabBelow_of_tabIs h.p _ x,by obtain ⟨v,h,k⟩:=h.s;exact ⟨v,Q8 h x,k⟩,by obtain ⟨v,h,k⟩:=h.r;exact ⟨v,Q8 h x,k⟩⟩
def fL (az:Nat) (w:World):Prop:=∃ w0,lv w0∧Ext w0 w∧w0.heap.size≤az
section
variable {az vv b c:Nat} {w w':World} {A:Option Addr} {S:List Nat} {l r:List ByteArray}
theorem fL.of (h:lv w):fL w.heap.size w:=⟨w,h,Ext.bM w,aMO _⟩
theorem fL.eb (h:fL az w):lv w:=by obtain ⟨w0,h,x,_⟩:=h;exact h.keep x
theorem fL.later (h:fL az w) (x:Ext w w'):fL az w':=by obtain ⟨w0,h,y,k⟩:=h;exact ⟨w0,h,J y x,k⟩
theorem fL.mod (h:fL az w) (m:Mod S w w') (hS:∀ q∈S,az≤q):fL az w':=by obtain ⟨w0,h,y,k⟩:=h;exact ⟨w0,h,Ext.mod y m λ q I=>aMR k (hS q I),k⟩
theorem fL.up (h:fL az w) (k:az≤vv):fL vv w:=by obtain ⟨w0,h,y,j⟩:=h;exact ⟨w0,h,y,aMR j k⟩
structure ke (w:World) (az b:Nat) (A:Option Addr) (c:Nat) (l:List ByteArray):Prop where
 B:aO w b [.slice A l.length c] 57 (0,0)
 H:eU.aQ 16 w A c l
 lt:∀ q∈Φ.ab A,q<az
 z:az≤b
theorem ke.eh (h:ke w az b A c l):aO w b [.slice A l.length c] 57 (0,0):=h.B
theorem ke.later (h:ke w az b A c l) (x:Ext w w'):ke w' az b A c l:=⟨h.B.later x,h.H.keep x,h.lt,h.z⟩
theorem ke.mod (h:ke w az b A c l) (m:Mod S w w') (hS:∀ q∈S,az≤q∧q≠b):ke w' az b A c l :=
 ⟨h.B.mod m λ af=>(hS b af).2 rfl,h.H.kl px.1 m λ _ q I hs=>by have:=h.lt q I;have:=(hS q hs).1;omega,h.lt,h.z⟩
theorem azj {s:ByteArray} (h:eU.aQ 16 w A c (s::r)):eU.aQ 16 w (ez A c 1 1) (c - 1) r:=by
 have:=(show eU.aQ 16 w (ez A c 1 1) (c - 1) _ from h.sub 1 (s::r).length (by simp) (aMO _));simpa using this
end
theorem Bd (e:Int) (w:World):
  Calls prog 44 #[γ e] w (λ r w'=>(e≠0∧r= .panicked (nR e)∧Ext w w')∨(e=0∧r= .returned (.tuple #[])∧Ext w w')):=by
 refine cx (n:=7) func44 Z Z Z ?_;refine aN Z<|gJ Z Z<|aJ<| ?_;refine ob Z (λ pb=> ?_) (λ pb=> ?_)
 ·refine rg<|vm Z<|aa (v:= .agg #[γ e]) (ht Z)<|aa (Gz (λ w=>by kernel_rfl) Z)<|ae3 Z<|f_<| ?_;exact .inl ⟨pb,Z,(Ext.bM w)⟩
 ·refine gb<|ne<|dR .nil<| ?_;exact .inr ⟨by omega,rfl,(Ext.bM w)⟩
theorem Rh (e:Int) (w:World) (he:e≠0):Calls prog 44 #[γ e] w (λ r w'=>r= .panicked (nR e)∧Ext w w'):=
 (Bd e w).mono λ r w' h=>by rcases h with ⟨_,κ,τ⟩ | ⟨h,_⟩;exact ⟨κ,τ⟩;exact absurd h he
theorem It (k:Bool) (w:World):
  Calls prog 41 #[.bool k] w (λ r w'=>(k=false∧r= .panicked (nR 10)∧Ext w w')∨(k=true∧r= .returned (.tuple #[])∧Ext w w')):=by
 refine cx (n:=5) func41 Z Z Z ?_;refine aN Z<|aa (dH Z)<|aJ<| ?_;refine c_ Z (λ pb=> ?_) (λ pb=> ?_)
 ·refine rg<|E9 xX Z ((Rh 10 _ (by decide)).mono ?_);rintro e xb ⟨rfl,bm⟩;refine cK ?_;refine f_<| ?_;exact .inl ⟨by simpa using pb,rfl,bm⟩
 ·refine gb<|ne<|dR .nil<| ?_;exact .inr ⟨by simpa using pb,rfl,(Ext.bM w)⟩
theorem Y7 (w:World) (aj:k=false):Calls prog 41 #[.bool k] w (λ r w'=>r= .panicked (nR 10)∧Ext w w'):=
 (It k w).mono λ r w' h=>by rcases h with ⟨_,κ,τ⟩ | ⟨h,_⟩;exact ⟨κ,τ⟩;subst aj;cases h
theorem am5 (w:World) (aj:k=true):Calls prog 41 #[.bool k] w (λ r w'=>r= .returned (.tuple #[])∧Ext w w'):=
 (It k w).mono λ r w' h=>by rcases h with ⟨h,_⟩ | ⟨_,κ,τ⟩;subst aj;cases h;exact ⟨κ,τ⟩
theorem aeC (az b:Nat) (A:Option Addr) (c:Nat) (w:World) (aE:aO w b [.slice A 0 c] 57 (0,0)) (tz:eU.aQ 16 w A c ([]:List ByteArray)) (bB:∀ q∈Φ.ab A,q<az) (bo:az≤b):
  Calls prog 40 #[.pointer (a_ b)] w (λ e w'=>e= .panicked (nR 10)∧Mod [b] w w'):=by
 refine cx (n:=22) func40 Z Z Z ?_;refine aG<|aU Z<|aN Z<|aa (b1 Z)<|bA Z aE Fq Z<|aa (dC underlying57 Z)<|aa (iv Z Z)<|E9 Fs Z ((Y7 _ (by simp)).mono ?_);rintro e dn ⟨rfl,gV⟩;refine cK ?_;have dK:=(Mod.bM [b] w).trans (Mod.aP gV);refine dP<|f_<| ?_;exact ⟨Z,dK⟩
theorem aeE (az b:Nat) (A:Option Addr) (c:Nat) (s:ByteArray) (r:List ByteArray) (w:World) (aE:aO w b [.slice A (s::r).length c] 57 (0,0)) (tz:eU.aQ 16 w A c (s::r)) (bB:∀ q∈Φ.ab A,q<az) (bo:az≤b):
  Calls prog 40 #[.pointer (a_ b)] w (λ e w'=>∃ bR cn,e= .returned (.string s)∧ke w' az b bR cn r∧Mod [b] w w'):=by
 refine cx (n:=22) func40 Z Z Z ?_;refine aG<|aU Z<|aN Z<|aa (b1 Z)<|bA Z aE Fq Z<|aa (dC underlying57 Z)<|aa (iv Z Z)<|de Fs Z (am5 _ (by simp)) λ dn gV=> ?_;have dK:=(Mod.bM [b] w).trans (Mod.aP gV);refine aJ<|aN Z<|aa (b1 Z)<| ?_;have aE:=aE.later gV;refine bA Z aE Fq Z<|aa (bX 0 underlying57 Bg Z Z ((tz.kl (px).1 dK (λ _ q I h=>by have:=bB q I;have:=aMu.1 h;omega)).bx (a1 0 (by simp))) Z (by simp))<|aa (aA Z (Φ.aQ.dm F3 ((tz.kl (px).1 dK (λ _ q I h=>by have:=bB q I;have:=aMu.1 h;omega)).ck (a1 0 (by simp))) (Z:(s::r)[0]? =some s) Z Ft))<|aU Z<|aN Z<|vm Z<|aa (b1 Z)<|bA Z aE Fq Z<|aa (afG 1 underlying57 Bg Z Z Z (by simp))<|aa (b1 Z)<|st (new:= [.slice (ez A c 1 1) ((s::r).length - 1) (c - 1)]) Z Z aE Z anE Z Z Z λ aAv Oq aE=> ?_;have PL:=dK.md Oq kV;refine aJ<|aN Z<|bL Z<|c' Z Z<| ?_;exact ⟨_,_,Z,⟨aE,azj (tz.kl px.1 PL (λ _ q I h=>by have:=bB q I;have:=aMu.1 h;omega)),λ q I=>bB q (aA1 I),bo⟩,PL⟩
theorem Y8 (az b:Nat) (A:Option Addr) (c:Nat) (ws:List ByteArray) (w:World) (h:ke w az b A c ws):
  Calls prog 40 #[.pointer (a_ b)] w (λ e w'=>(ws= []∧e= .panicked (nR 10)∧Mod [b] w w')∨∃ s r bR cn,ws=s::r∧e= .returned (.string s)∧ke w' az b bR cn r∧Mod [b] w w'):=by
 cases ws with
 | nil=>exact (aeC az b A c w h.B h.H h.lt h.z).mono λ e w' k=> .inl ⟨rfl,k.1,k.2⟩
 | cons s r=>exact (aeE az b A c s r w h.B h.H h.lt h.z).mono λ e w' k=>by obtain ⟨bR,cn,dt,ey,ju⟩:=k;exact .inr ⟨s,r,bR,cn,Z,dt,ey,ju⟩
end
section
open Go.RowKit Go.Lib Go.Sort Go.Proofs.YthlpmldmhakhaaaGreatDoor.qM
def yq (n:Int):ByteArray:=aD (Lib.itoa n)
theorem JH {n:Int} (h:dz n):(yq n).size≤21:=by
 have h:=cH.1 h;have:=Lib.itoa_length_le n h.1 h.2;unfold yq aD;rw [aNA];simpa using this
theorem ab6 (n:Int) (w:World) (hn:dz n) (av:lv w):Calls prog 31 #[γ n] w λ e w'=>e= .returned (.string (yq n))∧Ext w w' :=
 (strconv_Itoa n (cH.1 hn).1 (cH.1 hn).2 w av.p).mono λ e w' h=>⟨h.1,by obtain ⟨k,os,h⟩:=h.2;rw [h];exact Lib.below_grow _ w (aMO _) k os⟩
theorem awS (s:ByteArray) (u:Nat) (hs:s.size≤140737488351232) (h:Lib.parseUintB 32 s.data.toList= .ok u) (w:World):
  Calls prog 83 #[.string s,γ 10,γ 32] w λ e w'=>e= .returned (.tuple #[.int .u64 u, .nilIface])∧Ext w w' :=
 (strconv_ParseUint_10_at32_ok s (by omega) u h w).mono λ e w' k=>⟨k.1,by
  rcases k.2 with h | h
  ·rw [h];exact Ext.bM w
  ·rw [h];exact Lib.bytesWorld_below _ _ _⟩
theorem awR (s:ByteArray) (hs:s.size≤140737488351232) (h:∀ u,Lib.parseUintB 32 s.data.toList≠ .ok u) (w:World) (av:lv w):
  Calls prog 83 #[.string s,γ 10,γ 32] w λ e w'=>∃ m te p,e= .returned (.tuple #[.int .u64 m, .iface te p])∧Ext w w':=by
 cases hp:Lib.parseUintB 32 s.data.toList with
 | ok u=>exact absurd hp (h u)
 | range =>
  obtain ⟨v,κ,τ⟩:=av.r;exact (strconv_ParseUint_10_at32_range s (by omega) hp v w κ τ).mono λ e w' k=>by obtain ⟨N,dt,_,_,ey⟩:=k;exact ⟨_,_,_,dt,ey⟩
 | _ =>
  obtain ⟨v,κ,τ⟩:=av.s;exact (strconv_ParseUint_10_at32_syntax s (by omega) hp v w κ τ).mono λ e w' k=>by obtain ⟨N,dt,_,_,ey⟩:=k;exact ⟨_,_,_,dt,ey⟩
theorem aeJ {s:ByteArray} {u:Nat} (h:wM s=some u):u<1000000000:=by
 unfold wM at h;split at h
 ·split at h
  ·rename_i κ
   cases h
   have τ:(Lib.decDigits u).length≤9:=by
    have:=κ.1;rw [← κ.2,aNA] at this;simpa [aD] using this
   rw [aPR] at τ;exact aN9 (Lib.lt_pow_nDigits u) (aMR (Nat.pow_le_pow_right (by decide) τ) (by decide))
  ·cases h
 ·cases h
theorem aps (u:Nat) (hu:u<18446744073709551616) (w:World) (av:lv w):
  Calls prog 111 #[.int .u64 u,γ 10] w λ e w'=>e= .returned (.string ⟨(Lib.decDigits u).toArray⟩)∧Ext w w':=by
 have Gj:=av.p;by_cases hs:u<100
 ·have hc:IntKind.i64.wrap (u:Int)=u:=by rw [IntKind.wrap_i64];omega
  have af:decide ((u:Int)<100)=true:=aMV (by omega);clear av Gj;go_enter func111,ntmps111;go_wp2_with fail
  go_at_call 76
  refine (internal_strconv_small u hs _).mono ?_;rintro e w' ⟨rfl,rfl⟩;go_wp2
  go_ret;exact ⟨Z,Ext.bM _⟩
 ·have af:decide ((u:Int)<100)=false:=aMY (by omega);have aGq:Lib.nDigits u≤20:=by have:=Lib.numDigits_eq u (by omega) hu;split at this<;>omega
  have SW:prog.arrayLen 128 =24:=by simp [Program.arrayLen,underlying128]
  have yo:∀ W,(Instr.sliceAt 128 (.pointer (some ⟨w.heap.size,0,none⟩)) none (some (γ (Lib.nDigits u:Int))) none).run prog W= .ok (.slice (some ⟨w.heap.size,0,none⟩) (Lib.nDigits u) 24) W:=λ W=>by
   rw [run_sliceAt_array_h W 128 ⟨w.heap.size,0,none⟩ (by simp [Program.arrayLen,Program.elem,underlying128]) .i64 (Lib.nDigits u:Int) (by omega) (by rw [SW];omega),SW]
   go_simp
  clear SW;have Sm:Holds (λ (b:UInt8)=>Value.int .u8 (b.toNat:Int)) (w.alloc (.cells Lib.zeros24 128)) w.heap.size 0 (Array.replicate (Lib.nDigits u) (0:UInt8)):=λ j aw=>by
   have NK:j<Lib.nDigits u:=by simpa using aw
   refine ⟨?_,World.frozen?_alloc_new _ _ _ _⟩;rw [World.cell?_alloc_new,Lib.zeros24_at _ (by omega),getElem!_pos _ j aw];simp
  have abh:=internal_strconv_formatBase10 w.heap.size 0 24 u (Array.replicate (Lib.nDigits u) 0) (w.alloc (.cells Lib.zeros24 128)) Sm (by rw [aN2];exact Lib.lt_pow_nDigits u) hu (by rw [aN2];omega);rw [aN2] at abh;have ai1:=aMH Sm;clear Sm;go_enter func111,ntmps111;have ai4:=λ w h=>internal_strconv_numDigits u (by omega) hu w h;clear hu;go_wp2_with fail
  go_at_call 77
  refine (ai4 _ (Lib.tabIs_alloc Gj _)).mono ?_;rintro e w' ⟨rfl,rfl⟩;go_wp2_with fail
  go_at_call 78
  refine abh.mono ?_;rintro e w' ⟨rfl,k,v',Be,rfl,hF⟩;have hcv:(convert 30 9 (.slice (some ⟨w.heap.size,0,none⟩) (Lib.nDigits u) 24)).run prog ((putRow (λ (b:UInt8)=>Value.int .u8 (b.toNat:Int)) (w.alloc (.cells Lib.zeros24 128)) w.heap.size 0 Be).drewN k)= .ok (.string ⟨(Lib.decDigits u).toArray⟩) ((putRow (λ (b:UInt8)=>Value.int .u8 (b.toNat:Int)) (w.alloc (.cells Lib.zeros24 128)) w.heap.size 0 Be).drewN k):=by
   have h:=aPz (P:=prog) ((putRow (λ (b:UInt8)=>Value.int .u8 (b.toNat:Int)) (w.alloc (.cells Lib.zeros24 128)) w.heap.size 0 Be).drewN k) 30 9 5 ⟨w.heap.size,0,none⟩ 24 (Lib.decDigits u) underlying30 underlying5 underlying9 (λ j aw=>by
    rw [Lib.row_is_numeral hF j aw,Lib.add_plain,World.cell?_drewN];exact cell?_putRow (λ (b:UInt8)=>Value.int .u8 (b.toNat:Int)) _ w.heap.size 0 _ Be ai1.out (by rw [hF.size,aN2]) j (by rw [hF.size];rw [aPR] at aw;exact aw))
   rw [aPR] at h;exact h
  go_wp2
  go_ret;refine ⟨Z, ?_⟩;rw [alloc_eq_grow];obtain ⟨awG,_,e⟩:=putRow_grow_new (λ (b:UInt8)=>Value.int .u8 (b.toNat:Int)) w #[.cells Lib.zeros24 128] w.heap.size 0 Be (aMO _);rw [e];exact Lib.below_grow _ w (aMO _) k awG
theorem apr (u:Nat) (hu:u<18446744073709551616) (w:World) (av:lv w):
  Calls prog 84 #[.int .u64 u,γ 10] w λ e w'=>e= .returned (.string (aD (Lib.decDigits u)))∧Ext w w':=by
 refine cx (n:=8) func84 Z Z Z ?_;refine aG<|aU Z<|aN Z<|vm Z<|ca (b6 func111 (by kernel_rfl) (by kernel_rfl)) Z Z ((aps u hu w av).mono ?_);rintro e w' ⟨rfl,x⟩;refine cK ?_;refine bL Z<|c' Z Z<| ?_;exact ⟨Z,x⟩
end
section
variable {i n:Nat} {ws:List ByteArray}
open Go.Proofs.YthlpmldmhakhaaaGreatDoor.qM
section
variable {P:Program} {E:List (Nat×Value)} {w w':World} {d:Option Nat} {ty:TypeId} {pos:String} {aW:Array Edge} {g:Option (Nat×Bool)} {x y:Operand} {t u:TypeId}
theorem XR {b:BinOp} {v1 v2 r:Value} (κ:∀ w,(eqGuard b t x y v1 v2).run P w= .ok () w) (τ:∀ w,(binOp b t v1 v2).run P w= .ok r w) (hx:ev E x=some v1) (aH:ev E y=some v2):cF P E ⟨d, .binOp b t x y u,ty,pos,aW,g⟩ w r w:=λ n a ha=>by
 simp only [execOp,ha.ev hx,ha.ev aH,aML,κ,τ,aMG,aMP]
theorem ak4 (hx:ev E x=some .nilIface):cF prog E ⟨d, .binOp .eql 34 x (.const .nilIface) u,ty,pos,aW,g⟩ w (.bool true) w :=
 XR (λ w=>by cases x<;>rfl) (λ w=>by kernel_rfl) hx rfl
theorem ak5 {te:TypeId} {p:Value} (hx:ev E x=some (.iface te p)):cF prog E ⟨d, .binOp .eql 34 x (.const .nilIface) u,ty,pos,aW,g⟩ w (.bool false) w :=
 XR (λ w=>by cases x<;>rfl) (λ w=>by kernel_rfl) hx rfl
end
theorem aeT:∀ (l:List UInt8) (M acc u:Nat),acc≤M→Lib.parseUintM M acc l= .ok u→u≤M
 | [],M,acc,u,h,e=>by unfold Lib.parseUintM at e;cases e;exact h
 | c::r,M,acc,u,h,e=>by
  unfold Lib.parseUintM at e;split at e
  ·split at e
   ·cases e
   ·split at e
    ·cases e
    ·exact aeT r M _ u (by omega) e
  ·cases e
theorem awQ {l:List UInt8} {u:Nat} (h:Lib.parseUintB 32 l= .ok u):u<18446744073709551616:=by
 unfold Lib.parseUintB at h;split at h
 ·cases h
 ·have:=aeT l (2 ^ 32 - 1) 0 u (by decide) h;omega
theorem Uj (s:ByteArray) (r:List ByteArray):Ai (s::r)=(wM s).map λ u=>(u,r):=rfl
theorem aqK {w:World} {A:Option Addr} {c:Nat} {s:ByteArray} {r:List ByteArray} (h:eU.aQ 16 w A c (s::r)):s.size≤140737488351232:=by
 obtain ⟨_,_,_,_,ess,g,_⟩:=h;cases ess with
 | nil=>cases g
 | cons e es=>exact (show _∧_ from g.1).2
section
variable {az b c:Nat} {A:Option Addr} {s:ByteArray} {r:List ByteArray} {w:World}
theorem av3 (h:ke w az b A c []):Calls prog 40 #[.pointer (a_ b)] w (λ e w'=>e= .panicked (nR 10)∧Mod [b] w w'):=aeC az b A c w h.B h.H h.lt h.z
theorem aeB (h:ke w az b A c (s::r)):Calls prog 40 #[.pointer (a_ b)] w (λ e w'=>∃ bR cn,e= .returned (.string s)∧ke w' az b bR cn r∧Mod [b] w w'):=aeE az b A c s r w h.B h.H h.lt h.z
end
theorem awc {s:ByteArray} {u:Nat} (hp:Lib.parseUintB 32 s.data.toList= .ok u) (h:(decide ((s.size:Int)≤9) && decide (aD (Lib.decDigits u)=s))=false):wM s=none:=by
 unfold wM;rw [hp];show (if _ then _ else _)=_;rw [aMA];intro k;have dt:(s.size:Int)≤9:=by have:=k.1;omega
 simp [dt,k.2] at h
theorem aeI {s:ByteArray} {u:Nat} (hp:Lib.parseUintB 32 s.data.toList= .ok u) (h:(decide ((s.size:Int)≤9) && decide (aD (Lib.decDigits u)=s))=true):wM s=some u:=by
 unfold wM;rw [hp];show (if _ then _ else _)=_;rw [aMF,aMD,aMD] at h;exact aMI ⟨by omega,h.2⟩
theorem awf (az b:Nat) (A:Option Addr) (c:Nat) (w:World) (hK:ke w az b A c []) (av:fL az w):
  Calls prog 67 #[.pointer (a_ b)] w (λ e w'=>e= .panicked (nR 10)∧Mod [b] w w'):=by
 refine cx (n:=29) func67 Z Z Z ?_;refine aG<|aU Z<|aN Z<|E9 Ix Z ((av3 hK).mono ?_);rintro e xb ⟨rfl,T6⟩;refine cK ?_;have kL:=(Mod.bM [b] w).md T6 kV;refine dP<|f_<| ?_;exact ⟨Z,kL⟩
theorem awe (az b:Nat) (A:Option Addr) (c:Nat) (s:ByteArray) (r:List ByteArray) (w:World) (hK:ke w az b A c (s::r)) (av:fL az w) (hs:s.size≤140737488351232) (hp:∀ u,Lib.parseUintB 32 s.data.toList≠ .ok u):
  Calls prog 67 #[.pointer (a_ b)] w (λ e w'=>e= .panicked (nR 10)∧Mod [b] w w'):=by
 have afl:=hK.z;refine cx (n:=29) func67 Z Z Z ?_;refine aG<|aU Z<|aN Z<|ca Ix Z Z ((aeB hK).mono ?_);rintro e Ph ⟨cc,bd,rfl,Ln,wA⟩;refine cK ?_;have AJ:=(Mod.bM [b] w).md wA kV;refine aU Z<|aN Z<| ?_;have av:=av.mod wA (λ q I=>by have:=I;simp only [aMu] at this;omega);refine ca Zo Z Z ((awR s hs hp _ av.eb).mono ?_);rintro e Cd ⟨Of,te,aJu,rfl,kJ⟩;refine cK ?_;have lr:=AJ.trans (Mod.aP kJ);refine vm Z<|b2 Z Z<|b2 Z Z<|va Z<|aU Z<|aN Z<|aa (ak5 Z)<|vm Z<|yO Z<|yO Z<|yO Z<|aa (pn Z Z)<|vm Z<|yO Z<|yO Z<|yO Z<|yO Z<|aa (pn Z Z)<|E9 Fs Z ((Y7 _ Z).mono ?_);rintro e fP ⟨rfl,d_⟩;refine cK ?_;have b7:=lr.trans (Mod.aP d_);refine dP<|f_<| ?_;exact ⟨Z,b7⟩
theorem awg (az b:Nat) (A:Option Addr) (c:Nat) (s:ByteArray) (r:List ByteArray) (w:World) (hK:ke w az b A c (s::r)) (av:fL az w) (hs:s.size≤140737488351232) (u:Nat) (hu:u<18446744073709551616) (hp:Lib.parseUintB 32 s.data.toList= .ok u):
  Calls prog 67 #[.pointer (a_ b)] w (λ e w'=>(wM s=none∧e= .panicked (nR 10)∧Mod [b] w w')∨wM s=some u∧∃ bR cn,e= .returned (γ (u:Int))∧ke w' az b bR cn r∧Mod [b] w w'):=by
 have afl:=hK.z;refine cx (n:=29) func67 Z Z Z ?_;refine aG<|aU Z<|aN Z<|ca Ix Z Z ((aeB hK).mono ?_);rintro e Ph ⟨cc,bd,rfl,Ln,wA⟩;refine cK ?_;have AJ:=(Mod.bM [b] w).md wA kV;refine aU Z<|aN Z<|de Zo Z (awS s u hs hp _) λ Cd kJ=> ?_;have lr:=AJ.trans (Mod.aP kJ);refine vm Z<|b2 Z Z<|b2 Z Z<|va Z<|aU Z<|aN Z<|aa (ak4 Z)<|vm Z<|jR Z Z Z<|vm Z<|jR Z Z Z<|aa (DG underlying9 Z (by omega))<|jR Z Z Z<|aa (ble Z Z)<|aa (oL Z Z)<|vm Z<|gw Z Z<| ?_;have av:=(av.mod wA (λ q I=>by have:=I;simp only [aMu] at this;omega)).later kJ;refine yN Z anF (λ hc=>gG (gt hc Z) (gG Z Z)) (λ hc=>apr u hu _ av.eb) λ fP d_=> ?_;have b7:=lr.trans (Mod.aP d_);refine gw Z Z<|cb Z (λ hc=>kP underlying9 (gt hc Z) (gt hc Z))<|aa (fG Z Z Z Z)<|hy Fs Z Z ((It ((decide (((s).size:Int)≤9)) && (decide ((aD (Lib.decDigits u))=s))) _).mono ?_);rintro e w_ (⟨hc,rfl,gK⟩ | ⟨hc,rfl,eA⟩)
 ·refine .inl ⟨_,Z, ?_⟩;have ku:=b7.trans (Mod.aP gK);refine dP<|f_<| ?_;exact .inl ⟨awc hp hc,Z,ku⟩
 refine .inr ⟨_,Z, ?_⟩;have ku:=b7.trans (Mod.aP eA);have aGM:=aeJ (aeI hp hc);refine aJ<|aN Z<|aa (Mu (r:=(u:Int)) (λ _=>by kernel_rfl) fN Z)<|bL Z<|c' Z Z<| ?_;have Ln:=Ln.later (J kJ (J d_ eA));exact .inr ⟨aeI hp hc,cc,bd,Z,Ln,ku⟩
theorem awd (az b:Nat) (A:Option Addr) (c:Nat) (ws:List ByteArray) (w:World) (hK:ke w az b A c ws) (av:fL az w):
  Calls prog 67 #[.pointer (a_ b)] w (λ e w'=>(Ai ws=none∧e= .panicked (nR 10)∧Mod [b] w w')∨∃ u r bR cn,Ai ws=some (u,r)∧u<1000000000∧e= .returned (γ (u:Int))∧ke w' az b bR cn r∧Mod [b] w w'):=by
 cases ws with
 | nil=>exact (awf az b A c w hK av).mono λ e w' k=> .inl ⟨rfl,k⟩
 | cons s r =>
  have hs:=aqK hK.H;cases hp:Lib.parseUintB 32 s.data.toList with
  | ok u =>
   refine (awg az b A c s r w hK av hs u (awQ hp) hp).mono λ e w' k=> ?_;rcases k with ⟨dt,ey,ju⟩ | ⟨dt,bR,cn,ey,ju,atp⟩
   ·exact .inl ⟨by rw [Uj,dt];rfl,ey,ju⟩
   ·exact .inr ⟨u,r,bR,cn,by rw [Uj,dt];rfl,aeJ dt,ey,ju,atp⟩
  | _ =>
   have hn:Ai (s::r)=none:=by rw [Uj];unfold wM;rw [hp];rfl
   exact (awe az b A c s r w hK av hs (λ u e=>by rw [hp] at e;cases e)).mono λ e w' k=> .inl ⟨hn,k⟩
theorem take_set {T:List Int} {u:Int} (h:i<T.length):(T.set i u).take (i+1)=T.take i++ [u]:=by
 rw [aQ7,aQU (by omega),aNg h];rfl
theorem awk {r:List ByteArray} {T:List Int} (h:ea n ws=(ea (n - i) r).map (T.take i++ ·)) (ak:i<n) (hn:Ai r=none):ea n ws=none:=by
 rw [show n - i=(n - (i+1))+1 by omega] at h;exact awj h hn
theorem awm {u:Nat} {r r':List ByteArray} {T:List Int} (h:ea n ws=(ea (n - i) r).map (T.take i++ ·)) (aX:T.length=n) (ak:i<n) (hn:Ai r=some (u,r')):ea n ws=(ea (n - (i+1)) r').map ((T.set i (u:Int)).take (i+1)++ ·):=by
 rw [show n - i=(n - (i+1))+1 by omega] at h;rw [take_set (by omega)];exact awl h hn
theorem awh {r:List ByteArray} {T:List Int} (h:ea n ws=(ea (n - i) r).map (T.take i++ ·)) (ak:n≤i) (hr:r≠ []):ea n ws=none:=by
 rw [h,show n - i=0 by omega];unfold ea;rw [aMA hr];rfl
theorem awi {r:List ByteArray} {T:List Int} (h:ea n ws=(ea (n - i) r).map (T.take i++ ·)) (ak:n≤i) (aX:T.length=n) (hr:r= []):ea n ws=some T:=by
 rw [h,show n - i=0 by omega];unfold ea;rw [aMI hr];show some (T.take i++ [])=_;rw [aM4,aMU (by omega)]
theorem rD (az b:Nat) (A:Option Addr) (c:Nat) (ws:List ByteArray) (n:Nat) (w:World) (hK:ke w az b A c ws) (av:fL az w) (hn:n≤4):
  Calls prog 46 #[.pointer (a_ b),γ (n:Int)] w (λ e w'=>(ea n ws=none∧e= .panicked (nR 10)∧Mod [b] w w')∨∃ l bR cn,ea n ws=some l∧e= .returned (.slice bR l.length cn)∧bz.aL 3 8 w' w.heap.size (Φ.ab bR) bR cn l∧Mod [b] w w'):=by
 have afl:=hK.z;have tZ:=hK.B.lt;refine cx (n:=27) func46 Z Z Z ?_;refine aG<|aU Z<|aN Z<|DL (R:=bz) (by_:=8) (B:=w.heap.size) (c:=n) (zv:=(γ 0)) (q:=0) Φ.q9 underlying46 wj Z Z (λ j u h=>Ak j u h) (λ _=>⟨Z,cH.2 (by decide)⟩) Z Z Z (by omega) (by omega) (by omega) λ dn bw bm fO LS=> ?_;have dK:=(Mod.bM [b] w).trans (Mod.aP bm);have aea:∀ q∈Φ.ab (a_ bw),bw≤q:=λ q I=>aOn (aMu.1 I).symm;refine aU Z<|aI<|aN Z<|aa (dC underlying46 Z)<|vm Z<|aJ<|bV<| ?_;have av:=av.later bm;have hK:=hK.later bm;refine gh (λ cL cw aV=>∃ i:Nat,∃ r:List ByteArray,∃ EL:Option Addr,∃ Fc:Nat,∃ T:List Int,cw= [(0, .pointer (a_ b)),(4, .slice none 0 0),(5, .slice (a_ bw) n n),(10,γ (n:Int)),(11,γ (i:Int))]∧cL=n - i∧Mod [b] w aV∧fL az aV∧bz.aL 3 8 aV w.heap.size (Φ.ab (a_ bw)) (a_ bw) n (T)∧ke aV az b EL Fc r∧(T.length=n)∧(i≤n)∧(ea n ws=(ea (n - i) r).map (T.take i++ ·))) _ _ ⟨0,ws,A,c,List.replicate n 0,Z,Z,dK,av,LS,hK,by simp,by omega,by simp⟩ (eV Z Z Z) ?_;rintro aeh aCY uo ⟨i,r,EL,Fc,T,rfl,rfl,je,av,jZ,bN,aX,ak,kR⟩;refine aG<|fI Z Z<|aJ<|aI<| ?_;refine fM Z (λ bK=> ?_) (λ bK=> ?_)
 ·refine bF<|aI<|bV<|aN Z<|aU Z<|rg<|vm Z<|vm Z<|vm Z<|hy anG Z Z ((awd az b _ _ r _ bN av).mono ?_);rintro e sM (⟨Tr,rfl,b3⟩ | ⟨ago,axO,Wl,Yg,Tr,aGL,rfl,HB,gi⟩)
  ·refine .inl ⟨_,Z, ?_⟩;have iR:=je.md b3 kV;refine ko<|dP<|GD<|ko<|dP<|f_<| ?_;exact .inl ⟨awk kR (by omega) Tr,Z,iR⟩
  refine .inr ⟨_,Z, ?_⟩;have iR:=je.md gi kV;have jZ:=jZ.mod gi (bG aea);refine aa (bX i underlying46 cr Z Z (jZ.has.bx (a1 i)) Z (by omega))<|so (q':=(ago:Int)) (j:=0) (i:=i) jZ Φ.cZ (cl (l:=T) (u:=0) (by omega)) Z Z Z Z (λ _ cs h=>by have wS:=(show _∧_ from h).2;obtain rfl:=dy h;exact ⟨rfl,cH.2 (by omega)⟩) Z Z cr λ rL mh ajR=> ?_;have hU:=iR.md mh (λ q I=> .inr ((λ q I=>(jZ.lt q I).1) q I));refine nl<|cm<|eR Z Z Z<| ?_;have av:=(av.mod gi (λ q I=>by have:=I;simp only [aMu] at this;omega)).mod mh (λ q I=>by have:=(λ q I=>(jZ.lt q I).1) q I;omega);have HB:=HB.mod mh (λ q I=>by have:=aea q I;omega);exact fh ⟨i+1,axO,Wl,Yg,(T.set i (ago:Int)),Z,Z,hU,av,ajR,HB,by rw [aMM];exact aX,by omega,awm kR aX (by omega) Tr⟩
 ·refine er<|ep<|eY<|eo<|br<|aN Z<|aa (b1 Z)<|aa (aA Z (bN.eh.one Fq Z))<|aa (dC underlying57 Z)<|aa (beq Z Z)<|hy Fs Z Z ((It (((((r).length:Nat):Int))== 0) _).mono ?_);rintro e yS (⟨hc,rfl,jc⟩ | ⟨hc,rfl,fx⟩)
  ·refine .inl ⟨_,Z, ?_⟩;have lY:=je.trans (Mod.aP jc);refine dP<|f_<| ?_;exact .inl ⟨awh kR (by omega) (by simpa using hc),Z,lY⟩
  refine .inr ⟨_,Z, ?_⟩;have lY:=je.trans (Mod.aP fx);refine aJ<|aN Z<|bL Z<|c' Z Z<| ?_;have jZ:=jZ.later fx;exact .inr ⟨T,some ⟨bw,0,none⟩,n,awi kR (by omega) aX (by simpa using hc),by rw [aX];rfl,jZ,lY⟩
end
def aDl (W:ae) (p:a8→Bool) (w:World) (e:Ending) (w':World):Prop:=e= .returned (.tuple #[.int .i64 (aAO W p), .bool (ag9 W p), .int .i64 W.a7])∧Below w.heap.size w w'
section
variable {w:World} {az:Nat} {a:ae.cU} {l:List dT}
theorem bt.avO {aM:World} {W:ae} {l:List a8} (h:bt w az a W) (m:Mod (Φ.ab a.T) w aM) (aX:a8.rep.aL 108 56 aM az (Φ.ab a.T) a.T a.t l):bt aM az a {W with ah:=l}:=by
 have hn:=(aNk.1 h.apart).2.2;have d:∀ q∈Φ.ab a.P++Φ.ab a.B++Φ.ab a.S++Φ.ab a.M,q∉Φ.ab a.T:=λ q I aC=>hn q I q aC rfl;exact ⟨h.P.mod m (λ q I=>d q (by simp [I])),h.B.mod m (λ q I=>d q (by simp [I])),h.S.mod m (λ q I=>d q (by simp [I])),h.M.mod m (λ q I=>d q (by simp [I])),aX,h.apart,h.nums⟩
theorem apv {W:ae} (h:bt w az a W):∀ q∈Φ.ab a.P,q∉Φ.ab a.T:=λ q I aC=>(aNk.1 h.apart).2.2 q (by simp [I]) q aC rfl
theorem avT (w0:World) (a:ae.cU) (W:ae) (A:Option Addr) (c:Nat) (l:List dT) (w:World) (mO:bt w w0.heap.size a W) (ay:dT.rep.aQ 24 w A c l) (F6:0<l.length→∀ q∈Φ.ab A,q∉Φ.ab a.T) (BD:W.ah.length≤100000):
  Calls prog 119 #[.agg (ae.cells a W).toArray, .slice A l.length c] w (λ e w'=>∃ bR cn,e= .returned (.slice bR (W.kY l).2.length cn)∧bz.aL 3 8 w' w.heap.size (Φ.ab bR) bR cn (W.kY l).2∧bt w' w0.heap.size a (W.kY l).1∧Mod (Φ.ab a.T) w w'):=by
 refine (azc w0 a W A c l w mO.P.has mO.T (apv mO) ay F6 BD).mono ?_;rintro e w' ⟨bR,cn,rfl,κ,τ,aq⟩;exact ⟨bR,cn,Z,κ,mO.avO aq τ,aq⟩
theorem af9 (W:ae) (l:List dT):(W.kY l).1.ah.length=W.ah.length:=(Kt _).1
theorem azd (a:ae.cU) (W:ae) (l:List dT):ae.cells a W=ae.cells a (W.kY l).1:=by
 unfold ae.cells;rw [af9];rfl
def qu (W:ae) (l:List dT):Int:=if W.a7≠0 then W.a7 else if 200<l.length then 2 else 0
noncomputable def oH (W:ae) (l:List dT):ae:=if qu W l≠0 then ae.zero else (W.kY l).1
noncomputable def rA (W:ae) (l:List dT):List Int:=if qu W l≠0 then [] else (W.kY l).2
theorem aeq {W:ae} (h:¬ W.a7=0):qu W l=W.a7∧oH W l=ae.zero∧rA W l= []:=by
 have e:qu W l=W.a7:=by unfold qu;rw [aMI h]
 unfold oH rA;rw [e,aMI h,aMI h];exact ⟨Z,Z,Z⟩
theorem aer {W:ae} (h:W.a7=0) (ay:(200:Int)<(l.length:Int)):qu W l=2∧oH W l=ae.zero∧rA W l= []:=by
 have e:qu W l=2:=by unfold qu;rw [aMA (by omega),aMI (by omega)]
 unfold oH rA;rw [e];exact ⟨Z,Z,Z⟩
theorem J8 {W:ae} (h:W.a7=0) (ay:(l.length:Int)≤200):qu W l=0∧oH W l=(W.kY l).1∧rA W l=(W.kY l).2:=by
 have e:qu W l=0:=by unfold qu;rw [aMA (by omega),aMA (by omega)]
 unfold oH rA;rw [e];exact ⟨Z,Z,Z⟩
noncomputable def afr (g:dT):Nat→ae→Nat
 | 0,_=>0
 | n+1,W=>if (W.kY [g]).2.length=0 then 0 else afr g n (W.kY [g]).1+1
noncomputable def afs (g:dT):Nat→ae→ae
 | 0,W=>W
 | n+1,W=>if (W.kY [g]).2.length=0 then (W.kY [g]).1 else afs g n (W.kY [g]).1
def afq (W:ae) (id n:Int):Int:=if W.a7≠0 then W.a7 else if n<0∨200<n then 1 else if ag9 W (gH id)=false then 7 else 0
noncomputable def aKz (W:ae) (id:Int) (bg:ai) (n:Int):ae:=if afq W id n≠0 then ae.zero else afs ⟨id,⟨bg.x,bg.y⟩⟩ n.toNat W
noncomputable def aKy (W:ae) (id:Int) (bg:ai) (n:Int):Nat:=if afq W id n≠0 then 0 else afr ⟨id,⟨bg.x,bg.y⟩⟩ n.toNat W
theorem avQ (a:ae.cU) (W:ae) (w:World) (b8:ae.Has w a W):
  Calls prog 118 #[.agg ((ae.cells a W).toArray)] w (λ e w'=>∃ a':ae.cU,e= .returned (.agg (ae.cells a' W).toArray)∧bt w' w.heap.size a' W∧Ext w w'):=by
 refine cx (n:=26) func118 Z Z Z ?_;refine eW Z Z λ dn bw bm fO ag=> ?_;have ja:=ag.lt;refine dj p0 Z λ fP dI bD j8 aF=> ?_;have:=bD.size;have b7:=J bm bD;have qx:=aF.lt;refine aJ<|aG<|aa (ar pZ Z)<|aa (ar tu Z)<| ?_;have ag:=ag.later bD;refine bA Z ag fC Z<|ca C9 Z Z ((xR _ _ W.field.places _ (b8.P.keep b7)).mono ?_);rintro e Eh ⟨y3,A8,rfl,vd,arY,ik⟩;refine cK ?_;have:=ik.size;have oY:=J b7 ik;have pB:=bY vd.lt;have qm:=dJ vd.lt;refine aa (ar pZ Z)<|aa (ar tu Z)<| ?_;have ag:=ag.later ik;refine fH Z Z ag Z x_ Z Z λ rL mh ag=> ?_;have:=mh.size;have hU:=Ext.mod oY mh bE;refine aJ<|aI<| ?_;refine du [(1,0),(2,2),(4,0),(5,2),(7,3),(9,3)] [0,1,3,4,2,6,5,7,8,9] ?_;refine ax Z (λ _=>ar sq Z)<|cO Z Z ag x' Z<|ax Z (λ _=>ar tv Z)<|cO Z Z ag fC Z<|fS Z Z Z λ yR dS Q hK=>ca RH Z Z ((Mq _ _ W.bj _ (b8.B.keep (J hU dS))).mono ?_);rintro e KM ⟨PU,Q5,rfl,ve,arZ,lT⟩;refine ⟨_,Z,hK _ _ ⟨J dS lT, ?_⟩⟩;have:=dS.size;have lq:=J hU dS;have:=lT.size;have sU:=J lq lT;have yM:=bY ve.lt;have sC:=dJ ve.lt;refine ax Z (λ _=>ar sq Z)<|fS Z Z Z λ Cc fk Q hK=>ca C9 Z Z ((xR _ _ W.bh _ (b8.S.keep (J sU fk))).mono ?_);rintro e sN ⟨PW,Q6,rfl,vg,ar0,im⟩;refine ⟨_,Z,hK _ _ ⟨J fk im, ?_⟩⟩;have:=fk.size;have n3:=J sU fk;have:=im.size;have k1:=J n3 im;have KD:=bY vg.lt;have lf:=dJ vg.lt;have ag:=ag.later (J dS (J lT (J fk im)));refine dA Z Z Z λ El fy Q hK=>fH Z Z (ag.later fy) Z RI Z Z λ xd sF ag=>hK _ _ ?_;have:=fy.size;have o0:=J k1 fy;have:=sF.size;have nk:=Ext.mod o0 sF bE;refine ax Z (λ _=>ar tv Z)<|dA Z Z Z λ Em hG Q hK=>fH Z Z (ag.later hG) Z x_ Z Z λ En fY ag=>hK _ _ ?_;have:=hG.size;have sX:=J nk hG;have:=fY.size;have l0:=Ext.mod sX fY bE;refine fn λ um fl=> ?_;have:=fl.size;have jU:=J l0 fl;refine br<|aI<| ?_;refine du [(1,0),(2,2),(4,0),(5,2),(7,3),(9,3)] [0,1,3,4,2,6,5,7,8,9] ?_;refine ax Z (λ _=>ar FB Z)<| ?_;have ag:=ag.later fl;refine cO Z Z ag fC Z<|ax Z (λ _=>ar kf Z)<|cO Z Z ag l9 Z<|fS Z Z Z λ Pl gW Q hK=>ca C9 Z Z ((xR _ _ W.bW _ (b8.M.keep (J jU gW))).mono ?_);rintro e KP ⟨PY,E_,rfl,vh,ar1,oV⟩;refine ⟨_,Z,hK _ _ ⟨J gW oV, ?_⟩⟩;have:=gW.size;have AN:=J jU gW;have:=oV.size;have rS:=J AN oV;have Vg:=bY vh.lt;have sD:=dJ vh.lt;refine ax Z (λ _=>ar FB Z)<|fS Z Z Z λ Po iO Q hK=>ca RJ Z Z ((Mr _ _ W.ah _ (b8.T.keep (J rS iO))).mono ?_);rintro e Pr ⟨P0,Mm,rfl,zi,ar2,eZ⟩;refine ⟨_,Z,hK _ _ ⟨J iO eZ, ?_⟩⟩;have:=iO.size;have uN:=J rS iO;have EG:=J uN eZ;have qo:=dJ zi.lt;have ag:=ag.later (J gW (J oV (J iO eZ)));refine dA Z Z Z λ agU oW Q hK=>fH Z Z (ag.later oW) Z x_ Z Z λ Ep kD ag=>hK _ _ ?_;have Lc:=J EG oW;have jV:=Ext.mod Lc kD bE;refine ax Z (λ _=>ar kf Z)<|dA Z Z Z λ KS gQ Q hK=>fH Z Z (ag.later gQ) Z IC Z Z λ Er qt ag=>hK _ _ ?_;have uP:=J jV gQ;have kv:=Ext.mod uP qt bE;refine fn λ Pt jE=> ?_;have uQ:=J kv jE;refine br<|aG<| ?_;have ag:=ag.later jE;refine aa (aA Z (ag.all fb cP))<| ?_;have aF:=((((((((((aF.later ik).mod mh aY).later (J dS (J lT (J fk (J im fy))))).mod sF aY).later hG).mod fY aY).later (J fl (J gW (J oV (J iO (J eZ oW)))))).mod kD aY).later gQ).mod qt aY).later jE;refine c6 Z Z aF Z cP Z Z λ agY mi aF=> ?_;have Le:=Ext.mod uQ mi bE;refine tM<|dR (.cell Z (aF.all fb cP) .nil)<| ?_;have vd:=((((((((((vd.mod mh (bG qm)).later (J dS (J lT (J fk (J im fy))))).mod sF (bG qm)).later hG).mod fY (bG qm)).later (J fl (J gW (J oV (J iO (J eZ oW)))))).mod kD (bG qm)).later gQ).mod qt (bG qm)).later jE).mod mi (bG qm);have ve:=(((((((((ve.later (J fk (J im fy))).mod sF (bG sC)).later hG).mod fY (bG sC)).later (J fl (J gW (J oV (J iO (J eZ oW)))))).mod kD (bG sC)).later gQ).mod qt (bG sC)).later jE).mod mi (bG sC);have vg:=(((((((((vg.later fy).mod sF (bG lf)).later hG).mod fY (bG lf)).later (J fl (J gW (J oV (J iO (J eZ oW)))))).mod kD (bG lf)).later gQ).mod qt (bG lf)).later jE).mod mi (bG lf);have vh:=(((((vh.later (J iO (J eZ oW))).mod kD (bG sD)).later gQ).mod qt (bG sD)).later jE).mod mi (bG sD);have zi:=(((((zi.later oW).mod kD (bG qo)).later gQ).mod qt (bG qo)).later jE).mod mi (bG qo);have hR:=bt.Um (az:=w.heap.size) (vd.down (by omega)) (ve.down (by omega)) (vg.down (by omega)) (vh.down (by omega)) (zi.down (by omega)) (λ q κ τ=>by exfalso;(have:=sC q κ;(have:=pB q τ;omega))) (λ q κ τ=>by exfalso;(have:=lf q κ;(have:=pB q τ;omega))) (λ q κ τ=>by exfalso;(have:=lf q κ;(have:=yM q τ;omega))) (λ q κ τ=>by exfalso;(have:=sD q κ;(have:=pB q τ;omega))) (λ q κ τ=>by exfalso;(have:=sD q κ;(have:=yM q τ;omega))) (λ q κ τ=>by exfalso;(have:=sD q κ;(have:=KD q τ;omega))) (λ q κ τ=>by exfalso;(have:=qo q κ;(have:=pB q τ;omega))) (λ q κ τ=>by exfalso;(have:=qo q κ;(have:=yM q τ;omega))) (λ q κ τ=>by exfalso;(have:=qo q κ;(have:=KD q τ;omega))) (λ q κ τ=>by exfalso;(have:=qo q κ;(have:=Vg q τ;omega))) b8.nums;exact ⟨⟨y3,PU,PW,PY,P0,A8,Q5,Q6,E_,Mm⟩,Z,hR,Le⟩
theorem avS (a:ae.cU) (W:ae) (A:Option Addr) (c:Nat) (l:List dT) (w:World) (b8:ae.Has w a W) (ay:dT.rep.aQ 24 w A c l):
  Calls prog 88 #[.agg ((ae.cells a W).toArray), .slice A l.length c] w (λ e w'=>∃ a' bR cn,e= .returned (.tuple #[.agg (ae.cells a' (oH W l)).toArray, .slice bR (rA W l).length cn,γ (qu W l)])∧bt w' w.heap.size a' (oH W l)∧bz.aL 3 8 w' w.heap.size (Φ.ab bR) bR cn (rA W l)∧(∀ q∈Φ.ab bR,q∉bt.cA a')∧Ext w w'):=by
 refine cx (n:=26) func88 Z Z Z ?_;refine eW Z Z λ dn bw bm fO ag=> ?_;have ja:=ag.lt;refine dj p0 Z λ fP dI bD j8 aF=> ?_;have b7:=J bm bD;have qx:=aF.lt;refine va Z<|aU Z<|aI<|aG<| ?_;have ag:=ag.later bD;refine aa (aA Z (ag.all fb cP))<|de Fy Z (E' a W _ (b8.keep b7)) λ iM gB=> ?_;have:=gB.size;have c1:=J b7 gB;refine aU Z<|aN Z<|gJ Z Z<|aJ<| ?_;refine ob Z (λ l_=> ?_) (λ l_=> ?_)
 ·refine aG<|aa (v:= .agg #[γ 0,γ 0, .slice none 0 0, .slice none 0 0, .slice none 0 0, .slice none 0 0, .slice none 0 0,γ 0,γ 0]) (ht Z)<|vm Z<| ?_;have aF:=aF.later gB;refine c6 Z Z aF Z cP Z Z λ qE oE aF=> ?_;have lX:=Ext.mod c1 oE bE;refine va Z<|bL Z<|cW<|dR (.cell Z (aF.all fb cP) (.tmp Z (.tmp Z .nil)))<| ?_;obtain ⟨aR,a6,cM⟩:=aeq (l:=l) l_;exact ⟨⟨none,none,none,none,none,0,0,0,0,0⟩,none,0,by rw [aR,a6,cM];rfl,by rw [a6];exact bt.zero _ _,by rw [cM];exact Φ.aL.nil _,λ q I=>by simp [Φ.ab] at I,lX⟩
 ·have av:=Good.tX l_;have BD:=av.dH;refine bF<|aI<|aN Z<|aa (dC underlying144 Z)<|aa (iv Z Z)<|aJ<| ?_;refine fM Z (λ vL=> ?_) (λ vL=> ?_)
  ·refine aG<|aa (v:= .agg #[γ 0,γ 0, .slice none 0 0, .slice none 0 0, .slice none 0 0, .slice none 0 0, .slice none 0 0,γ 0,γ 0]) (ht Z)<| ?_;have aF:=aF.later gB;refine c6 Z Z aF Z cP Z Z λ uk BM aF=> ?_;have ka:=Ext.mod c1 BM bE;refine va Z<|bL Z<|cW<|dR (.cell Z (aF.all fb cP) (.tmp Z (.tmp Z .nil)))<| ?_;obtain ⟨aR,a6,cM⟩:=aer (l:=l) l_ (by omega);exact ⟨⟨none,none,none,none,none,0,0,0,0,0⟩,none,0,by rw [aR,a6,cM];rfl,by rw [a6];exact bt.zero _ _,by rw [cM];exact Φ.aL.nil _,λ q I=>by simp [Φ.ab] at I,ka⟩
  ·refine bF<|aG<| ?_;have ag:=ag.later gB;refine aa (aA Z (ag.all fb cP))<|ca anH Z Z ((avQ a W _ (b8.keep c1)).mono ?_);rintro e Au ⟨a28,rfl,HJ,eK⟩;refine cK ?_;have:=eK.size;have jd:=J c1 eK;have Ve:=bY HJ.lt;have Gr:=dJ HJ.lt;have ag:=ag.later eK;refine st Z Z ag Z cP Z Z Z λ Cc iK ag=> ?_;have:=iK.size;have n3:=Ext.mod jd iK bE;refine aJ<|aG<|aa (aA Z (ag.all fb cP))<|vm Z<| ?_;have HJ:=HJ.mod iK (bG Gr);refine ca anI Z Z ((avT _ a28 W _ _ l _ HJ (ay.keep n3) (λ aB q I af=>by have κ:=ay.au8 (by decide) aB q I;have τ:=Gr q (o9 af);omega) (by omega)).mono ?_);rintro e Vz ⟨ahK,alx,rfl,LB,Qm,DW⟩;refine cK ?_;have Cp:=Ext.mod n3 DW (λ q I=>by have ra:=Gr q (o9 I);omega);rw [azd a28 W l] at ag;have ad7:=dJ LB.lt;refine aU Z<|aG<| ?_;have xV:∀ q∈Φ.ab a28.T,q=bw→False:=λ q I af=>by (have:=Gr q (o9 I);omega)
   have ag:=ag.mod DW (λ I=>xV _ I rfl);refine aa (aA Z (ag.all fb cP))<|vm Z<| ?_;have aF:=(aF.later (J gB eK)).mod iK aY;have xW:∀ q∈Φ.ab a28.T,q=dI→False:=λ q I af=>by (have:=Gr q (o9 I);omega)
   have aF:=aF.mod DW (λ I=>xW _ I rfl);refine st Z Z aF Z cP Z Z Z λ Pj wI aF=> ?_;have AL:=Ext.mod Cp wI bE;refine va Z<|bL Z<|dR (.cell Z (aF.all fb cP) (.tmp Z (.tmp Z .nil)))<| ?_;have Qm:=Qm.mod wI (bG Gr);have LB:=LB.mod wI (bG ad7);obtain ⟨aR,a6,cM⟩:=J8 (l:=l) l_ (by omega);exact ⟨a28,ahK,alx,by rw [aR,a6,cM];rfl,by rw [a6];exact Qm.down (by omega),by rw [cM];exact LB.down (by omega),λ q I hf=>by (have:=ad7 q I;(have:=Ve q hf;omega)),AL⟩
end
end Go.Proofs.YthlpmldmhakhaaaGreatDoor
