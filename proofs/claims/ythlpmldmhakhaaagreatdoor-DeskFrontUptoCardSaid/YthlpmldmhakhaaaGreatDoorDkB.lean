import Derived.Test.YthlpmldmhakhaaaGreatDoorDkX
set_option linter.unusedVariables false
set_option linter.unusedSimpArgs false
set_option maxRecDepth 100000
set_option maxHeartbeats 4000000
open Go.RowKit
namespace Go.Proofs.YthlpmldmhakhaaaGreatDoor
open Tryz
abbrev aOa:=@ByteArray.size_append
abbrev aP6:=@Go.run_string_add_sum
abbrev aQv:=@Go.Oper.upon_value
abbrev aQC:=@Go.wpS_region
abbrev aQ5:=@Option.mem_toList
section
variable {w:World} {A:Option Addr} {c:Nat}
theorem aiM:dL prog eU 26 9 16:=dL.jw (z:= .string .empty) (k:=1) underlying26 DC rfl rfl (by decide) (λ j u h=>D9 j u h)
open Go.Proofs.YthlpmldmhakhaaaGreatDoor.qM
theorem aph {f:au} {a b:ai} (h:eH f a b=0):0≤iw f a b∧iw f a b≤4800∧(cQ f a b).length≤4801:=by
 obtain ⟨κ,τ,_,aq,bb,bT⟩:=M7 h;obtain ⟨far,hp⟩:=Ur κ τ b;have af:=hp.X2 (c:=b);have ay:=au.km κ;have hw:=ag4 (IK κ τ aq) aq;rw [bb,bT,aOi];exact ⟨aq,by omega,by omega⟩
theorem amq {l:List ai} (h:ai.rep.aQ 16 w A c l):∀ x∈l.map zz,x.size≤200:=λ x hx=>by
 obtain ⟨t,aC,rfl⟩:=aMT.1 hx;obtain ⟨k,aj,e⟩:=aOj aC;exact aMR (Q7 (YY h (k:=k) (by rw [aMy aj,e]))) (by decide)
theorem aAH {k:Int} {l:List ai} (aj:dz k) (h:ai.rep.aQ 16 w A c l) (ay:l.length≤4801):qP (en [k]++l.map zz):=
 qP.app (Bk (λ x hx=>by rw [aMu.1 hx];exact aj) (by simp)) (amq h) (by simp only [aMB,aNf,pz,aMw,aMz];omega)
section
variable {T:b5} {l:List Int}
theorem VL (h:eH T.W.field ⟨l.getD 0 0,l.getD 1 0⟩ ⟨l.getD 2 0,l.getD 3 0⟩≠0):T.way l=⟨eH T.W.field ⟨l.getD 0 0,l.getD 1 0⟩ ⟨l.getD 2 0,l.getD 3 0⟩, [],T⟩:=aMI h
theorem KV (h:eH T.W.field ⟨l.getD 0 0,l.getD 1 0⟩ ⟨l.getD 2 0,l.getD 3 0⟩=0):T.way l=⟨0,en [iw T.W.field ⟨l.getD 0 0,l.getD 1 0⟩ ⟨l.getD 2 0,l.getD 3 0⟩]++(cQ T.W.field ⟨l.getD 0 0,l.getD 1 0⟩ ⟨l.getD 2 0,l.getD 3 0⟩).map zz,T⟩:=aMA (by omega)
end
theorem aAF (b az:Nat) (h:gM) (T:b5) (xw:Option Addr) (A9:Nat) (l:List Int) (w:World) (aX:gN w b h T) (ay:bz.aQ 8 w xw A9 l) (hn:l.length=4) (av:fL az w) (sx:az≤b):
  Calls prog 52 #[.pointer (a_ b), .slice xw l.length A9] w (iG w b h T (T.way l)):=by
 have aE:=aX.B;have bN:=aX.W;have bZ:=aX.L;have tZ:=aE.lt;have gv:=bY bZ.lt;refine cx (n:=58) func52 Z Z Z ?_;refine aG<|aU Z<|aI<| ?_;refine du [(4,0),(7,0),(10,0),(14,0),(17,0),(19,2)] [0,1,2,3,4,5,6,7,8,9,10,11,12,13,14,15,16,17,18,19,20,21,22,23,24,25,26] ?_;refine bn Z Z<|ax Z (λ _=>b1 Z)<|ax Z (λ _=>ar q4 Z)<|ax Z (λ _=>ar pZ Z)<|cR Z (λ _ x=>aA Z ((aE.later x).par [γ T.W.field.wide,γ T.W.field.high, .slice h.a.P T.W.field.places.length h.a.p] gZ gy Z))<|bn Z Z<|ax Z (λ _=>bX 0 underlying46 cr Z Z ((ay.keep (Ext.bM w)).bx (a1 0)) Z (by omega))<|cR Z (λ _ x=>aA Z (Φ.aQ.dm dy ((ay.keep (J (Ext.bM w) x)).ck (a1 0)) (cl (l:=l) (u:=0) (j:=0) (by omega)) Z aZ))<|bn Z Z<|ax Z (λ _=>bX 1 underlying46 cr Z Z ((ay.keep (Ext.bM w)).bx (a1 1)) Z (by omega))<|cR Z (λ _ x=>aA Z (Φ.aQ.dm dy ((ay.keep (J (Ext.bM w) x)).ck (a1 1)) (cl (l:=l) (u:=0) (j:=1) (by omega)) Z aZ))<|ki (v:= .agg #[γ (l.getD 0 0),γ (l.getD 1 0)]) Z Z (λ _=>gO Z (by kernel_rfl)) Z<|bn Z Z<|ax Z (λ _=>bX 2 underlying46 cr Z Z ((ay.keep (Ext.bM w)).bx (a1 2)) Z (by omega))<|cR Z (λ _ x=>aA Z (Φ.aQ.dm dy ((ay.keep (J (Ext.bM w) x)).ck (a1 2)) (cl (l:=l) (u:=0) (j:=2) (by omega)) Z aZ))<|bn Z Z<|ax Z (λ _=>bX 3 underlying46 cr Z Z ((ay.keep (Ext.bM w)).bx (a1 3)) Z (by omega))<|cR Z (λ _ x=>aA Z (Φ.aQ.dm dy ((ay.keep (J (Ext.bM w) x)).ck (a1 3)) (cl (l:=l) (u:=0) (j:=3) (by omega)) Z aZ))<|ki (v:= .agg #[γ (l.getD 2 0),γ (l.getD 3 0)]) Z Z (λ _=>gO Z (by kernel_rfl)) Z<|fS Z Z Z λ Cd kJ Q hK=>ca Zn Z Z ((aeX T.W.field (⟨l.getD 0 0,l.getD 1 0⟩:ai) (⟨l.getD 2 0,l.getD 3 0⟩:ai) _ _ _ (aX.W.P.has.keep (J (Ext.bM w) kJ))).mono ?_);rintro e Pe ⟨Ct,dV,rfl,rZ,xh⟩;refine ⟨_,Z,hK _ _ ⟨J kJ xh, ?_⟩⟩;have:=kJ.size;have:=xh.size;have lp:=J kJ xh;have Vm:=bY rZ.lt;refine bn Z Z<|ax Z (λ _=>ex Z Z)<|ax Z (λ _=>ex Z Z)<|ax Z (λ _=>ex Z Z)<|ax Z (λ _=>eQ Z)<|ax Z (λ _=>eQ Z)<|ax Z (λ _=>eQ Z)<|fn λ yP ij=> ?_;have:=ij.size;have mC:=J lp ij;refine br<|aN Z<|hy xX Z Z ((Bd (eH T.W.field (⟨l.getD 0 0,l.getD 1 0⟩:ai) (⟨l.getD 2 0,l.getD 3 0⟩:ai)) _).mono ?_);rintro e yQ (⟨hc,rfl,gi⟩ | ⟨hc,rfl,ik⟩)
 ·refine .inl ⟨_,Z, ?_⟩;have iu:=J mC gi;refine dP<|f_<| ?_;exact .inl ⟨by rw [VL hc];exact hc,by rw [VL hc],by rw [VL hc];exact gj.same aX (J (J (J (J (Ext.bM w) kJ) xh) ij) gi)⟩
 refine .inr ⟨_,Z, ?_⟩;have:=ik.size;have iu:=J mC ik;obtain ⟨aE8,aE9,ao7⟩:=aph hc;refine aJ<|aN Z<|b9 (e:= 3) (cs:= [γ (iw T.W.field (⟨l.getD 0 0,l.getD 1 0⟩:ai) (⟨l.getD 2 0,l.getD 3 0⟩:ai))]) Z (λ _=>by kernel_rfl) Z λ qF XV iC adA xz=> ?_;have:=iC.size;have gR:=J iu iC;have Uv:=xz.lt;have av:=av.later (J kJ (J xh (J ij (J ik iC))));refine ca xZ Z Z ((yJ _ _ ([iw T.W.field (⟨l.getD 0 0,l.getD 1 0⟩:ai) (⟨l.getD 2 0,l.getD 3 0⟩:ai)]) _ _ (aO.zW (R:=bz) (by_:=8) (k:= [iw T.W.field (⟨l.getD 0 0,l.getD 1 0⟩:ai) (⟨l.getD 2 0,l.getD 3 0⟩:ai)]) xz [[γ (iw T.W.field (⟨l.getD 0 0,l.getD 1 0⟩:ai) (⟨l.getD 2 0,l.getD 3 0⟩:ai))]] Z (⟨⟨Z,cH.2 (by omega)⟩,trivial⟩) (by simp) (by simp)) (λ x hx=>by rw [aMu.1 hx];exact cH.2 (by omega)) (by simp) av (by omega)).mono ?_);rintro e Cb ⟨ahJ,alw,rfl,Xw,sQ⟩;refine cK ?_;have n2:=J gR sQ;have Gs:=dJ Xw.lt;refine aU Z<|aI<|aN Z<|aa (dC underlying49 Z)<|vm Z<|aJ<|bV<| ?_;have bZ:=bZ.later (J kJ (J xh (J ij (J ik (J iC sQ)))));have av:=av.later sQ;have rZ:=rZ.later (J ij (J ik (J iC sQ)));refine gh (λ cL cw aV=>∃ k:Nat,∃ ct:Option Addr,∃ co:Nat,∃ o:List ByteArray,cw= [(4, .slice none 0 0),(8, .slice ct o.length co),(40, .slice Ct ((cQ T.W.field (⟨l.getD 0 0,l.getD 1 0⟩:ai) (⟨l.getD 2 0,l.getD 3 0⟩:ai)).length) dV),(41,γ ((((cQ T.W.field (⟨l.getD 0 0,l.getD 1 0⟩:ai) (⟨l.getD 2 0,l.getD 3 0⟩:ai)).length:Nat):Int))),(42,γ (k:Int))]∧cL=(cQ T.W.field (⟨l.getD 0 0,l.getD 1 0⟩:ai) (⟨l.getD 2 0,l.getD 3 0⟩:ai)).length - k∧Ext w aV∧bC.rep.aL 110 48 aV (b+1) (Φ.ab h.A) h.A h.c (T.L)∧fL az aV∧ai.rep.aL 98 16 aV Cd.heap.size (Φ.ab Ct) Ct dV (cQ T.W.field (⟨l.getD 0 0,l.getD 1 0⟩:ai) (⟨l.getD 2 0,l.getD 3 0⟩:ai))∧eU.aL 9 16 aV w.heap.size (Φ.ab ct) ct co (o)∧(k≤(cQ T.W.field (⟨l.getD 0 0,l.getD 1 0⟩:ai) (⟨l.getD 2 0,l.getD 3 0⟩:ai)).length)∧(o=en [iw T.W.field (⟨l.getD 0 0,l.getD 1 0⟩:ai) (⟨l.getD 2 0,l.getD 3 0⟩:ai)]++((cQ T.W.field (⟨l.getD 0 0,l.getD 1 0⟩:ai) (⟨l.getD 2 0,l.getD 3 0⟩:ai)).take k).map zz)∧(∀ q∈Φ.ab ct,q∈Φ.ab h.A→False)∧(∀ q∈Φ.ab ct,q∈Φ.ab Ct→False)) _ _ ⟨0,ahJ,alw,en ([iw T.W.field (⟨l.getD 0 0,l.getD 1 0⟩:ai) (⟨l.getD 2 0,l.getD 3 0⟩:ai)]),Z,Z,n2,bZ,av,rZ,(Xw.down (by omega)),by omega,by simp,(λ q I af=>by (have:=Gs q I;(have:=gv q af;omega))),(λ q I af=>by (have:=Gs q I;(have:=Vm q af;omega)))⟩ (eV Z Z Z) ?_;rintro ru Xd xc ⟨k,ct,co,o,rfl,rfl,jT,bZ,av,rZ,bU,aj,bl,Fi,oc⟩;have:=jT.size;have wX:=bY bZ.lt;have agw:=bY rZ.lt;have O_:=bY bU.lt;have Gc:o.length≤10000:=by rw [bl];simp only [aMB,pz,aMw,aMz,aNf,aME];omega
 refine aG<|fI Z Z<|aJ<|aI<| ?_;refine fM Z (λ zT=> ?_) (λ zT=> ?_)
 ·refine bF<|aI<|bV<|aG<|aa (bX k underlying49 bs Z Z (rZ.has.bx (a1 k)) Z (by omega))<|aa (aA Z (Φ.aQ.jG vP (rZ.has.ck (a1 k)) (cl (l:=cQ T.W.field (⟨l.getD 0 0,l.getD 1 0⟩:ai) (⟨l.getD 2 0,l.getD 3 0⟩:ai)) (u:=default) (by omega)) b0 bs))<| ?_;have pe:=YY rZ.has (cl (l:=cQ T.W.field (⟨l.getD 0 0,l.getD 1 0⟩:ai) (⟨l.getD 2 0,l.getD 3 0⟩:ai)) (u:=default) (j:=k) (by omega));refine dj sk Z λ xd qZ rP atM Cv=> ?_;have nk:=J jT rP;have aKc:=Cv.lt;refine c6 Z Z Cv Z bs Z Z λ En fY Cv=> ?_;have:=fY.size;have l0:=Ext.mod nk fY bE;refine aJ<|rg<|vm Z<|aa (ar hz Z)<|bA Z Cv aZ Z<|aa (ar hB Z)<|bA Z Cv aZ Z<|b9 (e:= 3) (cs:= [γ (((cQ T.W.field (⟨l.getD 0 0,l.getD 1 0⟩:ai) (⟨l.getD 2 0,l.getD 3 0⟩:ai)).getD k default).x),γ (((cQ T.W.field (⟨l.getD 0 0,l.getD 1 0⟩:ai) (⟨l.getD 2 0,l.getD 3 0⟩:ai)).getD k default).y)]) Z (λ _=>by kernel_rfl) Z λ VC aEh fl aHZ W2=> ?_;have:=fl.size;have AM:=J l0 fl;have aKd:=W2.lt;have av:=((av.later rP).mod fY (λ q I=>by have:=I;simp only [aMu] at this;omega)).later fl;refine ca xZ Z Z ((yJ _ _ ([((cQ T.W.field (⟨l.getD 0 0,l.getD 1 0⟩:ai) (⟨l.getD 2 0,l.getD 3 0⟩:ai)).getD k default).x,((cQ T.W.field (⟨l.getD 0 0,l.getD 1 0⟩:ai) (⟨l.getD 2 0,l.getD 3 0⟩:ai)).getD k default).y]) _ _ (aO.zW (R:=bz) (by_:=8) (k:= [((cQ T.W.field (⟨l.getD 0 0,l.getD 1 0⟩:ai) (⟨l.getD 2 0,l.getD 3 0⟩:ai)).getD k default).x,((cQ T.W.field (⟨l.getD 0 0,l.getD 1 0⟩:ai) (⟨l.getD 2 0,l.getD 3 0⟩:ai)).getD k default).y]) W2 [[γ (((cQ T.W.field (⟨l.getD 0 0,l.getD 1 0⟩:ai) (⟨l.getD 2 0,l.getD 3 0⟩:ai)).getD k default).x)], [γ (((cQ T.W.field (⟨l.getD 0 0,l.getD 1 0⟩:ai) (⟨l.getD 2 0,l.getD 3 0⟩:ai)).getD k default).y)]] Z (⟨⟨Z,pe.1⟩,⟨⟨Z,pe.2⟩,trivial⟩⟩) (by simp) (by simp)) (YX pe) (by simp) av (by omega)).mono ?_);rintro e KQ ⟨aCI,aEO,rfl,ajH,hT⟩;refine cK ?_;have:=hT.size;have xt:=J AM hT;refine de ZG Z (Rk (aD [44]) ajH.has (by have:=Q7 pe;unfold zz at this;omega)) λ Po iO=> ?_;have:=iO.size;have uN:=J xt iO;refine b9 (e:= 9) (cs:= [.string ((mb (en ([((cQ T.W.field (⟨l.getD 0 0,l.getD 1 0⟩:ai) (⟨l.getD 2 0,l.getD 3 0⟩:ai)).getD k default).x,((cQ T.W.field (⟨l.getD 0 0,l.getD 1 0⟩:ai) (⟨l.getD 2 0,l.getD 3 0⟩:ai)).getD k default).y])) (aD [44])))]) Z (λ _=>by kernel_rfl) Z λ Pq X0 kK adI uV=> ?_;have y1:=J uN kK;have afk:=uV.lt;have bU:=((bU.later rP).mod fY (bk O_)).later (J fl (J hT (J iO kK)));refine ap aiM px bU (aO.fu (R:=eU) (by_:=16) (q:=(mb (en ([((cQ T.W.field (⟨l.getD 0 0,l.getD 1 0⟩:ai) (⟨l.getD 2 0,l.getD 3 0⟩:ai)).getD k default).x,((cQ T.W.field (⟨l.getD 0 0,l.getD 1 0⟩:ai) (⟨l.getD 2 0,l.getD 3 0⟩:ai)).getD k default).y])) (aD [44]))) uV ⟨Z,(by have:=Q7 pe;unfold zz at this;omega)⟩ (by decide)) Z Z (by simp only [aMw,aMz];omega) (by simp only [aMw,aMz];omega) y1.size Z λ KR aie al3 Ou aj8 aao aJa=> ?_;have nn:=Ext.mod y1 Ou (λ q I=>(bU.lt q I).1);refine va Z<|nl<|cm<|eR Z Z Z<| ?_;have bZ:=(((bZ.later rP).mod fY (cY λ q I af=>by have:=wX q I;have:=gv q I;omega)).later (J fl (J hT (J iO kK)))).mod Ou (fX Fi);have av:=(av.later (J hT (J iO kK))).mod Ou (λ q I=>by have:=(λ q I=>(bU.lt q I).1) q I;omega);have rZ:=(((rZ.later rP).mod fY (cY λ q I af=>by have:=agw q I;have:=Vm q I;omega)).later (J fl (J hT (J iO kK)))).mod Ou (fX oc);exact fh ⟨k+1,aie,al3,o++ [(mb (en ([((cQ T.W.field (⟨l.getD 0 0,l.getD 1 0⟩:ai) (⟨l.getD 2 0,l.getD 3 0⟩:ai)).getD k default).x,((cQ T.W.field (⟨l.getD 0 0,l.getD 1 0⟩:ai) (⟨l.getD 2 0,l.getD 3 0⟩:ai)).getD k default).y])) (aD [44]))],Z,Z,nn,bZ,av,rZ,aj8,by omega,by rw [bl,MI (by omega),aM6];rfl,(λ q I af=>by (exact aMS (aao q I) (λ adn=>by (exact Fi q adn af)) (λ adn=>by (have:=wX q af;have:=gv q af;omega)))),(λ q I af=>by (exact aMS (aao q I) (λ ado=>by (exact oc q ado af)) (λ ado=>by (have:=agw q af;have:=Vm q af;omega))))⟩
 ·refine er<|ep<|eY<|eo<|br<|aN Z<|bL Z<|c' Z Z<| ?_;have e:o=en [iw T.W.field (⟨l.getD 0 0,l.getD 1 0⟩:ai) (⟨l.getD 2 0,l.getD 3 0⟩:ai)]++(cQ T.W.field (⟨l.getD 0 0,l.getD 1 0⟩:ai) (⟨l.getD 2 0,l.getD 3 0⟩:ai)).map zz:=by rw [bl,aMU (by omega)]
  subst e;exact .inr ⟨by rw [KV hc],ct,co,by rw [KV hc];rfl,by rw [KV hc];exact bU,by rw [KV hc];exact aAH (cH.2 (by omega)) rZ.has ao7,by rw [KV hc];exact gj.same aX jT⟩
theorem oN:(10:Int)≠0:=by decide
section
variable {T:b5} {n:Nat} {ws:List ByteArray} {f:List Int→pS} {l:List Int} {s:ByteArray}
theorem gA (h:ea n ws=none):kq T n ws f=⟨10, [],T⟩:=by unfold kq;rw [h]
theorem c7 (h:ea n ws=some l):kq T n ws f=f l:=by unfold kq;rw [h]
theorem OE (h:s=aD [104,105,116]):kF s=3:=aMI h
theorem A6 {a b:List UInt8} (h:a≠b):aD a≠aD b:=λ e=>h (Mj e)
theorem BZ (h:s=aD [103,111]∨s=aD [109,105,110,101]):kF s=4:=by
 unfold kF;rw [aMA,aMI h];rcases h with rfl | rfl<;>exact A6 (by decide)
theorem BX (κ:¬ s=aD [104,105,116]) (τ:¬ (s=aD [103,111]∨s=aD [109,105,110,101])):kF s=2:=by
 unfold kF;rw [aMA κ,aMA τ]
theorem awy (h:s=aD [104,105,116]):oI s l=⟨l.getD 0 0,1,l.getD 1 0,⟨0,0⟩,l.getD 2 0⟩:=aMI h
theorem awx (h:s=aD [103,111]):oI s l=⟨l.getD 0 0,2,l.getD 1 0,⟨l.getD 2 0,l.getD 3 0⟩,0⟩:=by
 subst h;unfold oI;rw [aMA (A6 (by decide)),aMI rfl]
theorem awA (h:s=aD [109,105,110,101]):oI s l=⟨l.getD 0 0,3,l.getD 1 0,⟨l.getD 2 0,l.getD 3 0⟩,0⟩:=by
 subst h;unfold oI;rw [aMA (A6 (by decide)),aMA (A6 (by decide)),aMI rfl]
theorem aww (h:s=aD [100,114,111,112]):oI s l=⟨l.getD 0 0,4,l.getD 1 0,⟨0,0⟩,0⟩:=by
 subst h;unfold oI;rw [aMA (A6 (by decide)),aMA (A6 (by decide)),aMA (A6 (by decide)),aMI rfl]
theorem awz (κ:¬ s=aD [104,105,116]) (τ:¬ s=aD [103,111]) (aq:¬ s=aD [109,105,110,101]) (bb:¬ s=aD [100,114,111,112]):oI s l=⟨l.getD 0 0,5,0,⟨0,0⟩,l.getD 1 0⟩:=by
 unfold oI;rw [aMA κ,aMA τ,aMA aq,aMA bb]
theorem awB (bl:∀ x∈l,dz x):(oI s l).ok:=by
 have g:∀ i,dz (l.getD i 0):=λ i=>by
  by_cases h:i<l.length
  ·exact Bp bl h
  ·rw [aMv,aPv (by omega)];exact cH.2 (by decide)
 have z:∀ k:Int,0≤k→k≤9→dz k:=λ k κ τ=>cH.2 (by omega);unfold oI;split
 ·exact ⟨g 0,z 1 (by decide) (by decide),g 1,z 0 (by decide) (by decide),z 0 (by decide) (by decide),g 2⟩
 ·split
  ·exact ⟨g 0,z 2 (by decide) (by decide),g 1,g 2,g 3,z 0 (by decide) (by decide)⟩
  ·split
   ·exact ⟨g 0,z 3 (by decide) (by decide),g 1,g 2,g 3,z 0 (by decide) (by decide)⟩
   ·split
    ·exact ⟨g 0,z 4 (by decide) (by decide),g 1,z 0 (by decide) (by decide),z 0 (by decide) (by decide),z 0 (by decide) (by decide)⟩
    ·exact ⟨g 0,z 5 (by decide) (by decide),z 0 (by decide) (by decide),z 0 (by decide) (by decide),z 0 (by decide) (by decide),g 1⟩
end
theorem awC (b r8 az:Nat) (h:gM) (T:b5) (s:ByteArray) (A:Option Addr) (c:Nat) (ws:List ByteArray) (w0:World) (w:World) (cX:Ext w0 w) (aX:gN w0 b h T) (hK:ke w w0.heap.size r8 A c ws) (av:fL az w) (sx:az≤b) (kT:w0.heap.size≤r8):
  Calls prog 48 #[.pointer (a_ b), .string s, .pointer (a_ r8)] w (iG w0 b h T (kq T (kF s) ws λ l=>T.wait (oI s l))):=by
 have aE:=aX.B.later cX;have bN:=aX.W.later cX;have bZ:=aX.L.later cX;have tZ:=aX.B.lt;have aKx:=hK.B.lt;have pD:=λ q I=>(aX.W.lt q I).2;have pC:=λ q I=>(aX.L.lt q I).2;refine cx (n:=72) func48 Z Z Z ?_;refine aG<|aU Z<|aG<|dj MQ Z λ Cd E4 dZ adJ dc=> ?_;have lr:=J cX dZ;refine aJ<| ?_;refine Kr (λ cw aV=>∃ o:bC,∃ qj:List Int,cw= [(0, .pointer (a_ b)),(6, .slice none 0 0),(7, .pointer (a_ E4))]∧Ext w0 aV∧aO aV b [γ T.W.field.wide,γ T.W.field.high, .slice h.a.P T.W.field.places.length h.a.p, .slice h.a.B T.W.bj.length h.a.b, .slice h.a.S T.W.bh.length h.a.s, .slice h.a.M T.W.bW.length h.a.m, .slice h.a.T T.W.ah.length h.a.t,γ T.W.next,γ T.W.now, .slice h.A T.L.length h.c] 55 (0,0)∧bt aV (b+1) h.a T.W∧bC.rep.aL 110 48 aV (b+1) (Φ.ab h.A) h.A h.c (T.L)∧fL az aV∧aO aV E4 [γ o.by_,γ o.kind,γ o.bf,γ o.spot.x,γ o.spot.y,γ o.what] 110 (0,0)∧(ea (kF s) ws=some qj)∧(o=oI s qj)∧(∀ x∈qj,dz x)) ?_ ?_
 ·refine aN Z<|aJ<|bV<|aG<|aa (kP underlying9 Z Z)<|aU Z<| ?_;refine c_ Z (λ hN=> ?_) (λ hN=> ?_)
  ·simp only [aMD,aMC] at hN;refine aN Z<| ?_;have hK:=hK.later dZ;have av:=av.later dZ;refine hy q5 Z Z ((rD w0.heap.size r8 _ _ ws 3 _ hK (av.up (by omega)) (by decide)).mono ?_);rintro e yQ (⟨FP,rfl,gi⟩ | ⟨yu,Wk,Yf,FP,rfl,CK,jM⟩)
   ·refine .inl ⟨_,Z, ?_⟩;have iu:=Ext.mod lr gi bE;refine dP<|ko<|GD<|f_<| ?_;have aE:=(aE.later dZ).mod gi aY;have bN:=(bN.later dZ).mod gi (bk pD);have bZ:=(bZ.later dZ).mod gi (bk pC);exact .inl ⟨by rw [gA (show ea (kF s) ws=none by rw [OE hN];exact FP)];exact oN,by rw [gA (show ea (kF s) ws=none by rw [OE hN];exact FP)],by rw [gA (show ea (kF s) ws=none by rw [OE hN];exact FP)];exact ⟨h,⟨aE,bN,bZ,aX.d,aX.cC⟩,λ q I=> .inl I,Mod.aP iu⟩⟩
   refine .inr ⟨_,Z, ?_⟩;have iu:=Ext.mod lr jM bE;have aGi:=wN FP;have ar4:=rk CK.has;refine aU Z<| ?_;refine du [(2,0),(5,0),(8,0),(10,3)] [0,1,2,3,4,5,6,7,8,9,10] ?_;refine bn Z Z<|ax Z (λ _=>bX 0 underlying46 cr Z Z (CK.has.bx (a1 0)) Z (by omega))<|cR Z (λ _ x=>aA Z (Φ.aQ.dm dy ((CK.later x).has.ck (a1 0)) (cl (l:=yu) (u:=0) (j:=0) (by omega)) Z aZ))<|bn Z Z<|ax Z (λ _=>bX 1 underlying46 cr Z Z (CK.has.bx (a1 1)) Z (by omega))<|cR Z (λ _ x=>aA Z (Φ.aQ.dm dy ((CK.later x).has.ck (a1 1)) (cl (l:=yu) (u:=0) (j:=1) (by omega)) Z aZ))<|bn Z Z<|ax Z (λ _=>bX 2 underlying46 cr Z Z (CK.has.bx (a1 2)) Z (by omega))<|cR Z (λ _ x=>aA Z (Φ.aQ.dm dy ((CK.later x).has.ck (a1 2)) (cl (l:=yu) (u:=0) (j:=2) (by omega)) Z aZ))<|ki (v:= .agg #[γ (yu.getD 0 0),γ 1,γ (yu.getD 1 0),γ 0,γ 0,γ (yu.getD 2 0)]) Z Z (λ _=>gO Z (by kernel_rfl)) Z<| ?_;have dc:=dc.mod jM aY;refine dA Z Z Z λ rL jS Q hK=>c6 Z Z (dc.later jS) Z fR Z Z λ KL wB dc=>hK _ _ ?_;have hU:=J iu jS;have pI:=Ext.mod hU wB bE;refine fn λ Ej jA=> ?_;have ni:=J pI jA;refine cm<| ?_;have aE:=((((aE.later dZ).mod jM aY).later jS).mod wB aY).later jA;have bN:=((((bN.later dZ).mod jM (bk pD)).later jS).mod wB (bk pD)).later jA;have bZ:=((((bZ.later dZ).mod jM (bk pC)).later jS).mod wB (bk pC)).later jA;have av:=(((av.mod jM (λ q I=>by have:=I;simp only [aMu] at this;omega)).later jS).mod wB (λ q I=>by have:=I;simp only [aMu] at this;omega)).later jA;have dc:=dc.later jA;exact ml _ ⟨(⟨yu.getD 0 0,1,yu.getD 1 0,⟨0,0⟩,yu.getD 2 0⟩:bC),yu,Z,ni,aE,bN,bZ,av,dc,by rw [OE hN];exact FP,(awy hN).symm,ar4⟩ (ib Z)
  ·simp only [aMD,aMC] at hN;refine aI<|aG<|aa (kP underlying9 Z Z)<|aU Z<| ?_;refine c_ Z (λ mP=> ?_) (λ mP=> ?_)
   ·simp only [aMD,aMC] at mP;refine bF<|gX (gl Z (aMV mP))<|aN Z<| ?_;have hK:=hK.later dZ;have av:=av.later dZ;refine hy q5 Z Z ((rD w0.heap.size r8 _ _ ws 4 _ hK (av.up (by omega)) (by decide)).mono ?_);rintro e Ek (⟨FQ,rfl,iN⟩ | ⟨qh,aCB,aEI,FQ,rfl,zj,iK⟩)
    ·refine .inl ⟨_,Z, ?_⟩;have nj:=Ext.mod lr iN bE;refine dP<|ko<|GD<|f_<| ?_;have aE:=(aE.later dZ).mod iN aY;have bN:=(bN.later dZ).mod iN (bk pD);have bZ:=(bZ.later dZ).mod iN (bk pC);exact .inl ⟨by rw [gA (show ea (kF s) ws=none by rw [BZ (.inl mP)];exact FQ)];exact oN,by rw [gA (show ea (kF s) ws=none by rw [BZ (.inl mP)];exact FQ)],by rw [gA (show ea (kF s) ws=none by rw [BZ (.inl mP)];exact FQ)];exact ⟨h,⟨aE,bN,bZ,aX.d,aX.cC⟩,λ q I=> .inl I,Mod.aP nj⟩⟩
    refine .inr ⟨_,Z, ?_⟩;have nj:=Ext.mod lr iK bE;have aGj:=wN FQ;have ar5:=rk zj.has;refine aU Z<|aI<| ?_;refine du [(2,0),(5,0),(8,0),(11,0),(14,3)] [0,1,2,3,4,5,6,7,8,9,10,11,12,13,14] ?_;refine bn Z Z<|ax Z (λ _=>bX 0 underlying46 cr Z Z (zj.has.bx (a1 0)) Z (by omega))<|cR Z (λ _ x=>aA Z (Φ.aQ.dm dy ((zj.later x).has.ck (a1 0)) (cl (l:=qh) (u:=0) (j:=0) (by omega)) Z aZ))<|bn Z Z<|ax Z (λ _=>bX 1 underlying46 cr Z Z (zj.has.bx (a1 1)) Z (by omega))<|cR Z (λ _ x=>aA Z (Φ.aQ.dm dy ((zj.later x).has.ck (a1 1)) (cl (l:=qh) (u:=0) (j:=1) (by omega)) Z aZ))<|bn Z Z<|ax Z (λ _=>bX 2 underlying46 cr Z Z (zj.has.bx (a1 2)) Z (by omega))<|cR Z (λ _ x=>aA Z (Φ.aQ.dm dy ((zj.later x).has.ck (a1 2)) (cl (l:=qh) (u:=0) (j:=2) (by omega)) Z aZ))<|bn Z Z<|ax Z (λ _=>bX 3 underlying46 cr Z Z (zj.has.bx (a1 3)) Z (by omega))<|cR Z (λ _ x=>aA Z (Φ.aQ.dm dy ((zj.later x).has.ck (a1 3)) (cl (l:=qh) (u:=0) (j:=3) (by omega)) Z aZ))<|ki (v:= .agg #[γ (qh.getD 2 0),γ (qh.getD 3 0)]) Z Z (λ _=>gO Z (by kernel_rfl)) Z<|ki (v:= .agg #[γ (qh.getD 0 0),γ 2,γ (qh.getD 1 0),γ (qh.getD 2 0),γ (qh.getD 3 0),γ 0]) Z Z (λ _=>gO Z (by kernel_rfl)) Z<| ?_;have dc:=dc.mod iK aY;refine dA Z Z Z λ agN sR Q hK=>c6 Z Z (dc.later sR) Z fR Z Z λ Vz Gw dc=>hK _ _ ?_;have K9:=J nj sR;have Cp:=Ext.mod K9 Gw bE;refine fn λ xe di=> ?_;have k2:=J Cp di;refine br<|aN Z<|aa (kP underlying9 Z Z)<|aJ<| ?_;refine c_ Z (λ tC=> ?_) (λ tC=> ?_)
    ·simp only [aMD,aMC] at tC;exact absurd (mP.symm.trans tC) (A6 (by decide))
    ·simp only [aMD,aMC] at tC;refine gb<|cm<| ?_;have aE:=((((aE.later dZ).mod iK aY).later sR).mod Gw aY).later di;have bN:=((((bN.later dZ).mod iK (bk pD)).later sR).mod Gw (bk pD)).later di;have bZ:=((((bZ.later dZ).mod iK (bk pC)).later sR).mod Gw (bk pC)).later di;have av:=(((av.mod iK (λ q I=>by have:=I;simp only [aMu] at this;omega)).later sR).mod Gw (λ q I=>by have:=I;simp only [aMu] at this;omega)).later di;have dc:=dc.later di;exact ml _ ⟨(⟨qh.getD 0 0,2,qh.getD 1 0,⟨qh.getD 2 0,qh.getD 3 0⟩,0⟩:bC),qh,Z,k2,aE,bN,bZ,av,dc,by rw [BZ (.inl mP)];exact FQ,(awx mP).symm,ar5⟩ (ib Z)
   ·simp only [aMD,aMC] at mP;refine rg<|aa (kP underlying9 Z Z)<|aU Z<| ?_;refine c_ Z (λ j4=> ?_) (λ j4=> ?_)
    ·simp only [aMD,aMC] at j4;refine aN Z<| ?_;have hK:=hK.later dZ;have av:=av.later dZ;refine hy q5 Z Z ((rD w0.heap.size r8 _ _ ws 4 _ hK (av.up (by omega)) (by decide)).mono ?_);rintro e VC (⟨FR,rfl,Cl⟩ | ⟨qi,aCF,aEM,FR,rfl,zk,Gx⟩)
     ·refine .inl ⟨_,Z, ?_⟩;have AM:=Ext.mod lr Cl bE;refine dP<|ko<|GD<|f_<| ?_;have aE:=(aE.later dZ).mod Cl aY;have bN:=(bN.later dZ).mod Cl (bk pD);have bZ:=(bZ.later dZ).mod Cl (bk pC);exact .inl ⟨by rw [gA (show ea (kF s) ws=none by rw [BZ (.inr j4)];exact FR)];exact oN,by rw [gA (show ea (kF s) ws=none by rw [BZ (.inr j4)];exact FR)],by rw [gA (show ea (kF s) ws=none by rw [BZ (.inr j4)];exact FR)];exact ⟨h,⟨aE,bN,bZ,aX.d,aX.cC⟩,λ q I=> .inl I,Mod.aP AM⟩⟩
     refine .inr ⟨_,Z, ?_⟩;have AM:=Ext.mod lr Gx bE;have aGm:=wN FR;have ar6:=rk zk.has;refine aU Z<|aI<| ?_;refine du [(2,0),(5,0),(8,0),(11,0),(14,3)] [0,1,2,3,4,5,6,7,8,9,10,11,12,13,14] ?_;refine bn Z Z<|ax Z (λ _=>bX 0 underlying46 cr Z Z (zk.has.bx (a1 0)) Z (by omega))<|cR Z (λ _ x=>aA Z (Φ.aQ.dm dy ((zk.later x).has.ck (a1 0)) (cl (l:=qi) (u:=0) (j:=0) (by omega)) Z aZ))<|bn Z Z<|ax Z (λ _=>bX 1 underlying46 cr Z Z (zk.has.bx (a1 1)) Z (by omega))<|cR Z (λ _ x=>aA Z (Φ.aQ.dm dy ((zk.later x).has.ck (a1 1)) (cl (l:=qi) (u:=0) (j:=1) (by omega)) Z aZ))<|bn Z Z<|ax Z (λ _=>bX 2 underlying46 cr Z Z (zk.has.bx (a1 2)) Z (by omega))<|cR Z (λ _ x=>aA Z (Φ.aQ.dm dy ((zk.later x).has.ck (a1 2)) (cl (l:=qi) (u:=0) (j:=2) (by omega)) Z aZ))<|bn Z Z<|ax Z (λ _=>bX 3 underlying46 cr Z Z (zk.has.bx (a1 3)) Z (by omega))<|cR Z (λ _ x=>aA Z (Φ.aQ.dm dy ((zk.later x).has.ck (a1 3)) (cl (l:=qi) (u:=0) (j:=3) (by omega)) Z aZ))<|ki (v:= .agg #[γ (qi.getD 2 0),γ (qi.getD 3 0)]) Z Z (λ _=>gO Z (by kernel_rfl)) Z<|ki (v:= .agg #[γ (qi.getD 0 0),γ 2,γ (qi.getD 1 0),γ (qi.getD 2 0),γ (qi.getD 3 0),γ 0]) Z Z (λ _=>gO Z (by kernel_rfl)) Z<| ?_;have dc:=dc.mod Gx aY;refine dA Z Z Z λ Pl gW Q hK=>c6 Z Z (dc.later gW) Z fR Z Z λ KO lK dc=>hK _ _ ?_;have AN:=J AM gW;have uL:=Ext.mod AN lK bE;refine fn λ agS mA=> ?_;have K':=J uL mA;refine br<|aN Z<|aa (kP underlying9 Z Z)<|aJ<|gX (gl Z (aMV j4))<|rg<|aa (ar og Z)<| ?_;have dc:=dc.later mA;refine fH Z Z dc Z cr Z Z λ Pp gT dc=> ?_;have AO:=Ext.mod K' gT bE;refine nl<|cm<| ?_;have ee:=tO mA gT;have aE:=((((aE.later dZ).mod Gx aY).later gW).mod lK aY).mod ee aY;have bN:=((((bN.later dZ).mod Gx (bk pD)).later gW).mod lK (bk pD)).mod ee (bk pD);have bZ:=((((bZ.later dZ).mod Gx (bk pC)).later gW).mod lK (bk pC)).mod ee (bk pC);have av:=(((av.mod Gx (λ q I=>by have:=I;simp only [aMu] at this;omega)).later gW).mod lK (λ q I=>by have:=I;simp only [aMu] at this;omega)).mod ee (λ q I=>by have:=I;simp only [aMu] at this;omega);exact ml _ ⟨(⟨qi.getD 0 0,3,qi.getD 1 0,⟨qi.getD 2 0,qi.getD 3 0⟩,0⟩:bC),qi,Z,AO,aE,bN,bZ,av,dc,by rw [BZ (.inr j4)];exact FR,(awA j4).symm,ar6⟩ (ib Z)
    ·simp only [aMD,aMC] at j4;refine aG<|aa (kP underlying9 Z Z)<|aU Z<| ?_;refine c_ Z (λ zU=> ?_) (λ zU=> ?_)
     ·simp only [aMD,aMC] at zU;refine aN Z<| ?_;have hK:=hK.later dZ;have av:=av.later dZ;refine hy q5 Z Z ((rD w0.heap.size r8 _ _ ws 2 _ hK (av.up (by omega)) (by decide)).mono ?_);rintro e KR (⟨FT,rfl,k0⟩ | ⟨DE,aCK,aEQ,FT,rfl,HO,qs⟩)
      ·refine .inl ⟨_,Z, ?_⟩;have nn:=Ext.mod lr k0 bE;refine dP<|ko<|GD<|f_<| ?_;have aE:=(aE.later dZ).mod k0 aY;have bN:=(bN.later dZ).mod k0 (bk pD);have bZ:=(bZ.later dZ).mod k0 (bk pC);exact .inl ⟨by rw [gA (show ea (kF s) ws=none by rw [BX hN (λ e=>e.elim mP j4)];exact FT)];exact oN,by rw [gA (show ea (kF s) ws=none by rw [BX hN (λ e=>e.elim mP j4)];exact FT)],by rw [gA (show ea (kF s) ws=none by rw [BX hN (λ e=>e.elim mP j4)];exact FT)];exact ⟨h,⟨aE,bN,bZ,aX.d,aX.cC⟩,λ q I=> .inl I,Mod.aP nn⟩⟩
      refine .inr ⟨_,Z, ?_⟩;have nn:=Ext.mod lr qs bE;have aGn:=wN FT;have ar9:=rk HO.has;refine aU Z<| ?_;refine du [(2,0),(5,0),(7,3)] [0,1,2,3,4,5,6,7] ?_;refine bn Z Z<|ax Z (λ _=>bX 0 underlying46 cr Z Z (HO.has.bx (a1 0)) Z (by omega))<|cR Z (λ _ x=>aA Z (Φ.aQ.dm dy ((HO.later x).has.ck (a1 0)) (cl (l:=DE) (u:=0) (j:=0) (by omega)) Z aZ))<|bn Z Z<|ax Z (λ _=>bX 1 underlying46 cr Z Z (HO.has.bx (a1 1)) Z (by omega))<|cR Z (λ _ x=>aA Z (Φ.aQ.dm dy ((HO.later x).has.ck (a1 1)) (cl (l:=DE) (u:=0) (j:=1) (by omega)) Z aZ))<|ki (v:= .agg #[γ (DE.getD 0 0),γ 4,γ (DE.getD 1 0),γ 0,γ 0,γ 0]) Z Z (λ _=>gO Z (by kernel_rfl)) Z<| ?_;have dc:=dc.mod qs aY;refine dA Z Z Z λ G4 kr Q hK=>c6 Z Z (dc.later kr) Z fR Z Z λ KS J6 dc=>hK _ _ ?_;have n4:=J nn kr;have uP:=Ext.mod n4 J6 bE;refine fn λ KT mB=> ?_;have y2:=J uP mB;refine cm<| ?_;have aE:=((((aE.later dZ).mod qs aY).later kr).mod J6 aY).later mB;have bN:=((((bN.later dZ).mod qs (bk pD)).later kr).mod J6 (bk pD)).later mB;have bZ:=((((bZ.later dZ).mod qs (bk pC)).later kr).mod J6 (bk pC)).later mB;have av:=(((av.mod qs (λ q I=>by have:=I;simp only [aMu] at this;omega)).later kr).mod J6 (λ q I=>by have:=I;simp only [aMu] at this;omega)).later mB;have dc:=dc.later mB;exact ml _ ⟨(⟨DE.getD 0 0,4,DE.getD 1 0,⟨0,0⟩,0⟩:bC),DE,Z,y2,aE,bN,bZ,av,dc,by rw [BX hN (λ e=>e.elim mP j4)];exact FT,(aww zU).symm,ar9⟩ (ib Z)
     ·simp only [aMD,aMC] at zU;refine aN Z<| ?_;have hK:=hK.later dZ;have av:=av.later dZ;refine hy q5 Z Z ((rD w0.heap.size r8 _ _ ws 2 _ hK (av.up (by omega)) (by decide)).mono ?_);rintro e VI (⟨FU,rfl,PH⟩ | ⟨DF,aCM,aES,FU,rfl,HP,mi⟩)
      ·refine .inl ⟨_,Z, ?_⟩;have AP:=Ext.mod lr PH bE;refine dP<|ko<|GD<|f_<| ?_;have aE:=(aE.later dZ).mod PH aY;have bN:=(bN.later dZ).mod PH (bk pD);have bZ:=(bZ.later dZ).mod PH (bk pC);exact .inl ⟨by rw [gA (show ea (kF s) ws=none by rw [BX hN (λ e=>e.elim mP j4)];exact FU)];exact oN,by rw [gA (show ea (kF s) ws=none by rw [BX hN (λ e=>e.elim mP j4)];exact FU)],by rw [gA (show ea (kF s) ws=none by rw [BX hN (λ e=>e.elim mP j4)];exact FU)];exact ⟨h,⟨aE,bN,bZ,aX.d,aX.cC⟩,λ q I=> .inl I,Mod.aP AP⟩⟩
      refine .inr ⟨_,Z, ?_⟩;have AP:=Ext.mod lr mi bE;have aGo:=wN FU;have asb:=rk HP.has;refine aU Z<| ?_;refine du [(2,0),(5,0),(7,3)] [0,1,2,3,4,5,6,7] ?_;refine bn Z Z<|ax Z (λ _=>bX 0 underlying46 cr Z Z (HP.has.bx (a1 0)) Z (by omega))<|cR Z (λ _ x=>aA Z (Φ.aQ.dm dy ((HP.later x).has.ck (a1 0)) (cl (l:=DF) (u:=0) (j:=0) (by omega)) Z aZ))<|bn Z Z<|ax Z (λ _=>bX 1 underlying46 cr Z Z (HP.has.bx (a1 1)) Z (by omega))<|cR Z (λ _ x=>aA Z (Φ.aQ.dm dy ((HP.later x).has.ck (a1 1)) (cl (l:=DF) (u:=0) (j:=1) (by omega)) Z aZ))<|ki (v:= .agg #[γ (DF.getD 0 0),γ 5,γ 0,γ 0,γ 0,γ (DF.getD 1 0)]) Z Z (λ _=>gO Z (by kernel_rfl)) Z<| ?_;have dc:=dc.mod mi aY;refine dA Z Z Z λ Vr oS Q hK=>c6 Z Z (dc.later oS) Z fR Z Z λ aK3 JV dc=>hK _ _ ?_;have AH:=J AP oS;have aBr:=Ext.mod AH JV bE;refine fn λ Vt fK=> ?_;have EB:=J aBr fK;refine cm<| ?_;have aE:=((((aE.later dZ).mod mi aY).later oS).mod JV aY).later fK;have bN:=((((bN.later dZ).mod mi (bk pD)).later oS).mod JV (bk pD)).later fK;have bZ:=((((bZ.later dZ).mod mi (bk pC)).later oS).mod JV (bk pC)).later fK;have av:=(((av.mod mi (λ q I=>by have:=I;simp only [aMu] at this;omega)).later oS).mod JV (λ q I=>by have:=I;simp only [aMu] at this;omega)).later fK;have dc:=dc.later fK;exact ml _ ⟨(⟨DF.getD 0 0,5,0,⟨0,0⟩,DF.getD 1 0⟩:bC),DF,Z,EB,aE,bN,bZ,av,dc,by rw [BX hN (λ e=>e.elim mP j4)];exact FU,(awz hN mP j4 zU).symm,asb⟩ (ib Z)
 rintro aCZ aK4 ⟨o,qj,rfl,VZ,aE,bN,bZ,av,aim,Bs,asa,arD⟩;have:=VZ.size;refine aN Z<|aa (aA Z (aim.all j1 fR))<| ?_;subst asa;refine hy aoh Z Z ((aAB b h T (oI s qj) _ ⟨aE,bN,bZ,aX.d,aX.cC⟩ (awB arD)).mono ?_);rintro e Vv (⟨hr,rfl,kS⟩ | ⟨hr,uR,vB,rfl,vo,vJ,kS⟩)
 ·refine .inl ⟨_,Z, ?_⟩;refine dP<|f_<| ?_;exact .inl ⟨by rw [c7 Bs];exact hr,by rw [c7 Bs],by rw [c7 Bs];exact kS.before VZ⟩
 refine .inr ⟨_,Z, ?_⟩;refine bL Z<|c' Z Z<| ?_;exact .inr ⟨by rw [c7 Bs];exact hr,uR,vB,by rw [c7 Bs];rfl,by rw [c7 Bs];exact vo.down (by omega),by rw [c7 Bs];exact vJ,by rw [c7 Bs];exact kS.before VZ⟩
end
section
variable {b c:World} {o:Oper} {op:Op}
def mD (D:Nat) (w w':World):Prop:=w.heap.size≤w'.heap.size∧(D≤w.heap.size→Below D w w')
theorem mD.nT {D:Nat} {a:World} (h:mD D a b) (k:mD D b c):mD D a c:=⟨aMR h.1 k.1,λ hd=>aQY (h.2 hd) (k.2 (aMR hd h.1))⟩
theorem mD.of {D:Nat} {a:World} (h:Ext a b):mD D a b:=⟨h.size,λ hd=>aPx h hd⟩
theorem mD.md {D:Nat} {a:World} {S:List Nat} (h:Ext a b) (m:Mod S b c) (hS:∀ q∈S,D≤q):mD D a c :=
  ⟨aMR h.size m.size,λ hd=>aQY (aPx h hd) (m.below hS (aMR hd h.size))⟩
section
variable {D:Nat} {P:Program} {ops:Array Oper} {Q:Exit→Act→World→Prop} {aK:Nat→Nat}
def s7 (D:Nat) (P:Program) (ops:Array Oper) (w0:World) (o:Oper) (v:Value) (a:Act):Prop :=
  (Region.wanted o (yielded ops a.tmps)=true∧∀ w,mD D w0 w→tY P w v ((execOp a.eval o).run P w))∨
  (Region.wanted o (yielded ops a.tmps)=false∧v=undef)
theorem s7.of_same {w0:World} {v:Value} {a a':Act} (h:s7 D P ops w0 o v a) (he:execOp a'.eval o=execOp a.eval o) (hw:Region.wanted o (yielded ops a'.tmps)=Region.wanted o (yielded ops a.tmps)):s7 D P ops w0 o v a':=by
  unfold s7 at *;rw [he,hw];exact h
theorem s7.on {w0 aM:World} {v:Value} {a:Act} (h:s7 D P ops w0 o v a) (hx:mD D w0 aM):s7 D P ops aM o v a :=
  h.imp (λ ⟨κ,τ⟩=>⟨κ,λ w hw=>τ w (hx.nT hw)⟩) id
theorem Yields.axI {w0:World} {v:Value} {a:Act} (h:Yields P ops o v a):s7 D P ops w0 o v a :=
  h.imp (λ ⟨κ,τ⟩=>⟨κ,λ w _=>by rw [τ w];exact ⟨rfl,rfl⟩⟩) id
def ay9 (D:Nat) (P:Program) (ops:Array Oper) (Q:Exit→Act→World→Prop) (aK:Nat→Nat) (i:Nat) (K:Act→World→Prop) (a:Act) (w0:World):Prop :=
  ∃ o,ops[i]? =some o∧
    ((aK i≤1∧∃ v,s7 D P ops w0 o v a∧K (a.put o.dst v) w0)∨
     (1<aK i∧∀ w,Ext w0 w→wpOp P ops Q i (λ a' w'=>(aK i=2→mD D w0 w')∧K a' w') a w))
def H7 (D:Nat) (P:Program) (ops:Array Oper) (Q:Exit→Act→World→Prop) (aK:Nat→Nat):Nat→Array Bool→Act→World→Prop
  | 0,l,a,w0=>Region.ready .any ops l= []∧∀ w,Ext w0 w→Q .normal a w
  | f+1,l,a,w0=>(Region.ready .any ops l= []→∀ w,Ext w0 w→Q .normal a w)∧∀ i∈Region.ready .any ops l,ay9 D P ops Q aK i (H7 D P ops Q aK f (l.setIfInBounds i true)) a w0
theorem E1:∀ (f:Nat) (l:Array Bool) (a:Act) (w0:World),H7 D P ops Q aK f l a w0→∀ w,Ext w0 w→wpAny P .any ops Q f l a w
  | 0,_,_,_,h,w,hw=>⟨h.1,h.2 w hw⟩
  | f+1,l,a,w0,h,w,hw=>⟨λ aB=>h.1 aB w hw,λ i ak=>by
      obtain ⟨o,bl,τ⟩:=h.2 i ak;rcases τ with ⟨_,v,I,aj⟩ | ⟨_,τ⟩
      · unfold wpOp
        simp only [bl];rcases I with ⟨i_,I⟩ | ⟨i_,rfl⟩
        · rw [aMI i_]
          refine .inl ?_;have I:=I w (mD.of hw);unfold Oper.wp;generalize (execOp a.eval o).run P w=r at *
          cases r with
          | ok n w' =>
            cases n<;>simp only [tY] at I<;>simp only [Oper.upon]
            case value u=>obtain ⟨rfl,rfl⟩:=I;exact E1 f _ _ _ aj _ hw
            case skip=>obtain ⟨rfl,rfl⟩:=I;exact E1 f _ _ _ aj _ hw
            case enter f' args=>obtain ⟨rfl,hc⟩:=I;exact hc.mono λ e kp ⟨he,hx⟩=>by subst he;exact E1 f _ _ _ aj _ (hw.nT hx)
          | halt x w'=>simp only [tY] at I
        · rw [aMA (by rw [i_];decide)]
          exact E1 f _ _ _ aj _ hw
      · exact aOf (λ a' w' aq=>E1 f _ _ _ aq.2 _ (Ext.bM w')) (τ w hw)⟩
theorem Z0 {i:Nat} {c2:Oper} {v:Value} (ak:ops[i]? =some c2) (aj:aK i≤1) (j6:∀ (j:Nat) (o:Oper) cs b,ops[j]? =some o→o.op≠ .select cs b)
    (eI:∀ c a w,¬ Q (.panic c) a w) (az:World→Act→Prop) (kt:∀ w0 a,az w0 a→s7 D P ops w0 c2 v a)
    (z2:∀ w0 a a',az w0 a→execOp a'.eval c2=execOp a.eval c2→Region.wanted c2 (yielded ops a'.tmps)=Region.wanted c2 (yielded ops a.tmps)→az w0 a')
    (z3:∀ w0 aM a,mD D w0 aM→az w0 a→az aM a) (R:Nat→Bool) (qg:Array Bool)
    (hR:∀ j cI,ops[j]? =some cI→j≠i→(∀ e∈cI.after,Region.binds .any e=true→R e.on=true)→R j=true)
    (aS:(∀ w0 aM a,az w0 a→az aM a)∨∀ j,R j=true→3≤aK j→qg.getD j true=true):
    ∀ (f:Nat) (l:Array Bool) (a:Act) (w0:World),(∀ j,l.getD j false=true→R j=true)→(∀ j,qg.getD j true=true→l.getD j true=true)→
      (∀ j cI,ops[j]? =some cI→j≠i→l.getD j true=false→(∀ e∈cI.after,Region.binds .any e=true→e.on≠i)→c2.apart ops cI=true)→
      i∈Region.ready .any ops l→az w0 a→H7 D P ops Q aK f (l.setIfInBounds i true) (a.put c2.dst v) w0→H7 D P ops Q aK (f+1) l a w0:=by
  intro f;induction f with
  | zero =>
    intro l a w0 _ _ _ hr bo H;refine ⟨λ h=>(by rw [h] at hr;cases hr),λ j aw=> ?_⟩;by_cases fe:j=i
    · subst fe;exact ⟨c2,ak, .inl ⟨aj,v,kt _ _ bo,H⟩⟩
    · have:=aOh aw fe
      rw [H.1] at this;cases this
  | succ f bu =>
    intro l a w0 vU vS vQ hr bo H;refine ⟨λ h=>(by rw [h] at hr;cases hr),λ j aw=> ?_⟩;by_cases fe:j=i
    · subst fe;exact ⟨c2,ak, .inl ⟨aj,v,kt _ _ bo,H⟩⟩
    · obtain ⟨cI,hD,κ⟩:=H.2 j (aOh aw fe)
      obtain ⟨qb,ef,vY,ej⟩:=aOZ.1 aw;obtain rfl:ef=cI:=by rw [hD] at vY;exact (aMJ vY).symm
      have Du:∀ e∈ef.after,Region.binds .any e=true→e.on≠i:=λ e he af heq=>by
        have κ:=ej e he af;have aB:=(aOZ.1 hr).1;rw [heq] at κ;rcases aNI i l.size with cp | cp
        · simp [cp] at aB κ;rw [aB] at κ;cases κ
        · simp [aNo cp] at κ
      have zV:=vQ j ef hD fe qb Du;obtain ⟨cV,a2,a3⟩:=aPC zV;have Dw:∀ cs b,c2.op≠ .select cs b:=λ cs b=>j6 i c2 cs b ak;have ri:∀ cs b,ef.op≠ .select cs b:=λ cs b=>j6 j ef cs b hD;have keep:∀ aM a u,az aM a→az aM (a.put ef.dst u):=λ aM a u bo=>z2 _ _ _ bo (aOA c2 Dw a ef.dst u a3) (aOL c2 a ef.dst u a3);have vK:R j=true:=hR j ef hD fe λ e he af=>vU _ (ej e he af);have vV:∀ k,(l.setIfInBounds j true).getD k false=true→R k=true:=λ k aj=>by
        by_cases fF:j=k
        · rw [← fF];exact vK
        · rw [aN8 false fF] at aj;exact vU k aj
      have vT:∀ k,qg.getD k true=true→(l.setIfInBounds j true).getD k true=true:=λ k aj=>by
        by_cases fF:j=k
        · subst fF
          rcases aNI j l.size with cp | cp
          · simp [cp]
          · simp [aNo cp]
        · rw [aN8 true fF];exact vS k aj
      have vR:∀ k ok,ops[k]? =some ok→k≠i→(l.setIfInBounds j true).getD k true=false→
          (∀ e∈ok.after,Region.binds .any e=true→e.on≠i)→c2.apart ops ok=true:=λ k ok aj k9 wa jr=>by
        refine vQ k ok aj k9 ?_ jr;by_cases fF:j=k
        · subst fF;exact qb
        · rw [aN8 true fF] at wa;exact wa
      have vZ:=aOh hr (aOV fe);rcases κ with ⟨qc,u,I,hK⟩ | ⟨qc,κ⟩
      · refine ⟨ef,hD, .inl ⟨qc,u,I.of_same (aOA ef ri a c2.dst v cV).symm (aOL ef a c2.dst v cV).symm, ?_⟩⟩
        refine bu _ _ _ vV vT vR vZ (keep _ _ _ bo) ?_;rw [aNC _ _ fe,← aOg a v u a2];exact hK
      · refine ⟨ef,hD, .inr ⟨qc,λ w hw=> ?_⟩⟩
        refine aOf (λ a' w' aq=>⟨aq.2.1, ?_⟩) (Pw (az:=az w0) hD cV a2 ri eI (keep w0) (λ a d bo=>z2 _ _ _ bo Z Z) bo (κ w hw));have DB:az w' a':=by
          rcases aNI (aK j) 3 with bB | zY
          · exact z3 _ _ _ (aq.2.1 (by omega)) aq.1
          · rcases aS with aS | aS
            · exact aS _ _ _ aq.1
            · have:=vS j (aS j vK zY);rw [qb] at this;cases this
        refine bu _ _ _ vV vT vR vZ DB ?_;rw [aNC _ _ fe];exact aq.2.2
def G5 (D:Nat) (P:Program) (ops:Array Oper) (Q:Exit→Act→World→Prop) (aK:Nat→Nat):List Nat→Act→World→Prop
  | [],a,w0=>∀ w,Ext w0 w→Q .normal a w
  | i::r,a,w0=>∃ o,ops[i]? =some o∧
      ((aK i=0∧∃ v,s7 D P ops w0 o v a∧G5 D P ops Q aK r (a.put o.dst v) w0)∨
       (aK i=1∧∃ v,Yields P ops o v a∧G5 D P ops Q aK r (a.put o.dst v) w0)∨
       (1<aK i∧∀ w,Ext w0 w→wpOp P ops Q i (λ a' w'=>(aK i=2→mD D w0 w')∧G5 D P ops Q aK r a' w') a w))
theorem L6 (hs:Region.noSelect ops=true) (eI:∀ c a w,¬ Q (.panic c) a w):∀ (r:List Nat) (l:Array Bool) (a:Act) (w0:World),l.size=ops.size→hM ops aK r l=true→G5 D P ops Q aK r a w0→H7 D P ops Q aK r.length l a w0
  | [],l,a,w0,_,aS,h=>⟨by simpa [hM] using aS,h⟩
  | i::r,l,a,w0,ay,aS,h=>by
    obtain ⟨o,bl,h⟩:=h;have j6:=aOB hs;rcases h with ⟨aj,v,I,hK⟩ | ⟨aj,v,I,hK⟩ | ⟨aj,h⟩
    · simp only [hM,aj,aMF] at aS
      obtain ⟨⟨⟨hf,hr⟩,af⟩,aS⟩:=aS;obtain ⟨R,r1,r2,sI⟩:=Ib ay af;exact Z0 bl (by omega) j6 eI (λ w0 a=>s7 D P ops w0 o v a) (λ _ _ h=>h) (λ _ _ _ h he hw=>h.of_same he hw) (λ _ _ _ hx h=>h.on hx) R l r1 (.inr sI) _ _ _ _ r2 (λ _ h=>h) (aNT bl hf) (by simpa using hr) I
        (L6 hs eI r _ _ _ (by simpa using ay) aS hK)
    · simp only [hM,aj,aMF] at aS
      obtain ⟨⟨hf,hr⟩,aS⟩:=aS;exact Z0 bl (by omega) j6 eI (λ _ a=>Yields P ops o v a) (λ _ _ h=>Yields.axI h) (λ _ _ _ h he hw=>h.of_same he hw) (λ _ _ _ _ h=>h) (λ _=>true) l (λ _ _ _ _ _=>Z) (.inl λ _ _ _ h=>h) _ _ _ _ (λ _ _=>Z) (λ _ h=>h) (aNT bl hf) (by simpa using hr) I
        (L6 hs eI r _ _ _ (by simpa using ay) aS hK)
    · obtain ⟨k,lH⟩:∃ k,aK i=k+2:=⟨aK i - 2,by omega⟩
      simp only [hM,lH,aMF,aNq] at aS;obtain ⟨hr,aS⟩:=aS;refine ⟨λ aB=>(by rw [hr] at aB;cases aB),λ j aw=> ?_⟩;rw [hr] at aw;obtain rfl:j=i:=by simpa using aw
      exact ⟨o,bl, .inr ⟨aj,λ w hw=>aOf (λ a' w' aq=>⟨aq.1,L6 hs eI r _ _ _ (by simpa using ay) aS aq.2⟩) (h w hw)⟩⟩
theorem ax3 {id:Nat} {a:Act} {w:World} (ba:List Nat) (hm:P.follows .mixedOrders=true) (aS:(Region.noSelect ops && (ba.length == ops.size) && hM ops aK ba (Array.replicate ops.size false))=true)
    (h:G5 D P ops (eT (Q .normal)) aK ba a w):(Code.region id ops true).wp P Q a w:=by
  simp only [aMF,aNq] at aS;obtain ⟨⟨hs,ay⟩,aS⟩:=aS;refine aQf (aOI hm (Q:=eT (Q .normal)) ?_) (λ e a w I=>by cases e<;>first | exact I | exact I.elim);have:=L6 (P:=P) hs (Q:=eT (Q .normal)) (λ _ _ _ h=>h) ba (Array.replicate ops.size false) a w (by simp) aS h;rw [ay] at this;exact E1 _ _ _ _ this _ (aNb _ w).drew
end
section
variable {D:Nat} {P:Program} {n:Nat} {E cd:List (Nat×Value)} {a:Act} {w w' w0 aM:World} {Q:Exit→Act→World→Prop} {ops:Array Oper} {v:Value} {aK:Nat→Nat}
variable {d:Option Nat} {ty:TypeId} {pos:String} {aW:Array Edge} {g:Option (Nat×Bool)} {x y z:Operand} {t:TypeId} {rest:List Oper} {ba:List Nat} {i:Nat}
def AX (D:Nat) (P:Program) (n:Nat) (ops:Array Oper) (Q:Exit→Act→World→Prop) (aK:Nat→Nat) (ba:List Nat) (E:List (Nat×Value)) (w0:World):Prop:=∀ a,c8 n E a→G5 D P ops (eT (Q .normal)) aK ba a w0
theorem apt (h:∀ w,Ext w0 w→N n Q E w):AX D P n ops Q aK [] E w0:=λ a ha w hw=>h w hw a ha
theorem apy {d:Nat} (ak:ops[i]? =some ⟨some d,op,ty,pos,aW,none⟩) (aj:aK i=0) (hr:∀ w,mD D w0 w→cF P E ⟨some d,op,ty,pos,aW,none⟩ w v w) (hd:Nat.blt d n=true)
    (h:AX D P n ops Q aK ba ((d,v)::E) w0):AX D P n ops Q aK (i::ba) E w0:=λ a ha =>
  ⟨_,ak, .inl ⟨aj,v, .inl ⟨qG rfl,λ w hw=>by rw [hr w hw n a ha];exact ⟨rfl,rfl⟩⟩,h _ (ha.put hd v)⟩⟩
theorem zM {d:Nat} (ak:ops[i]? =some ⟨some d,op,ty,pos,aW,none⟩) (aj:aK i=1) (hr:∀ w,cF P E ⟨some d,op,ty,pos,aW,none⟩ w v w) (hd:Nat.blt d n=true)
    (h:AX D P n ops Q aK ba ((d,v)::E) w0):AX D P n ops Q aK (i::ba) E w0:=λ a ha =>
  ⟨_,ak, .inr (.inl ⟨aj,v, .inl ⟨qG rfl,λ w=>hr w n a ha⟩,h _ (ha.put hd v)⟩)⟩
theorem R1 (aT:o.guard=none) (ak:ops[i]? =some o) (aj:aK i=2) (h:∀ w,Ext w0 w→A4 P n ops o E w λ cd w'=>mD D w0 w'∧AX D P n ops Q aK ba cd w'):AX D P n ops Q aK (i::ba) E w0:=λ a ha =>
  ⟨_,ak, .inr (.inr ⟨by omega,λ w hw=>Ec aT ak (h w hw) (λ cd w' a' aj ot=>⟨λ _=>aj.1,aj.2 a' ot⟩) ha⟩)⟩
end
end
section
variable {w w':World} {b D:Nat} {h:gM} {P:Program}
open Go.Proofs.YthlpmldmhakhaaaGreatDoor.qM
section
variable {T:b5} {s x:ByteArray} {r:List ByteArray}
theorem Fp (aB:s=aD [102,105,101,108,100]) (h:∀ x,r≠ [x]):T.done (s::r)=⟨10, [],T⟩:=by
 unfold b5.done;dsimp only;rw [aMI aB]
 match r,h with
 | [],_=>rfl
 | [x],h=>exact absurd rfl (h x)
 | _::_::_,_=>rfl
theorem Rn (aB:s=aD [102,105,101,108,100]) (h:po (ss x)≠0):T.done [s,x]=⟨po (ss x), [],T⟩:=by
 unfold b5.done;dsimp only;rw [aMI aB];exact aMI h
theorem Iu (aB:s=aD [102,105,101,108,100]) (h:po (ss x)=0):T.done [s,x]=⟨0, [],IL (pw (ss x))⟩:=by
 unfold b5.done;dsimp only;rw [aMI aB];exact aMA (by omega)
theorem tl (aB:¬ s=aD [102,105,101,108,100]) (κ:s=aD [98,97,115,101]):T.done (s::r)=kq T 3 r T.base:=by
 unfold b5.done;dsimp only;rw [aMA aB,aMI κ]
theorem tq (aB:¬ s=aD [102,105,101,108,100]) (κ:¬ s=aD [98,97,115,101]) (τ:s=aD [116,114,111,111,112]):T.done (s::r)=kq T 4 r T.yK:=by
 unfold b5.done;dsimp only;rw [aMA aB,aMA κ,aMI τ]
theorem zE (aB:¬ s=aD [102,105,101,108,100]) (κ:¬ s=aD [98,97,115,101]) (τ:¬ s=aD [116,114,111,111,112]) (aq:ld s=true):T.done (s::r)=kq T (kF s) r λ l=>T.wait (oI s l):=by
 unfold b5.done;dsimp only;rw [aMA aB,aMA κ,aMA τ,aMI aq]
theorem tr (aB:¬ s=aD [102,105,101,108,100]) (κ:¬ s=aD [98,97,115,101]) (τ:¬ s=aD [116,114,111,111,112]) (aq:¬ ld s=true) (bb:s=aD [116,117,114,110]):T.done (s::r)=kq T 0 r λ _=>T.B9:=by
 unfold b5.done;dsimp only;rw [aMA aB,aMA κ,aMA τ,aMA aq,aMI bb]
theorem zF (aB:¬ s=aD [102,105,101,108,100]) (κ:¬ s=aD [98,97,115,101]) (τ:¬ s=aD [116,114,111,111,112]) (aq:¬ ld s=true) (bb:¬ s=aD [116,117,114,110]) (bT:s=aD [116,114,111,111,112,115]):T.done (s::r)=kq T 0 r λ _=>⟨0,T.W.ah.map ue,T⟩:=by
 unfold b5.done;dsimp only;rw [aMA aB,aMA κ,aMA τ,aMA aq,aMA bb,aMI bT]
theorem vG (aB:¬ s=aD [102,105,101,108,100]) (κ:¬ s=aD [98,97,115,101]) (τ:¬ s=aD [116,114,111,111,112]) (aq:¬ ld s=true) (bb:¬ s=aD [116,117,114,110]) (bT:¬ s=aD [116,114,111,111,112,115]) (cy:s=aD [115,116,111,99,107]):T.done (s::r)=kq T 1 r λ l=>if (T.W.bh.length:Int)≤l.getD 0 0 then ⟨7, [],T⟩ else ⟨0,en [T.W.bh.getD (l.getD 0 0).toNat 0],T⟩:=by
 unfold b5.done;dsimp only;rw [aMA aB,aMA κ,aMA τ,aMA aq,aMA bb,aMA bT,aMI cy]
theorem vH (aB:¬ s=aD [102,105,101,108,100]) (κ:¬ s=aD [98,97,115,101]) (τ:¬ s=aD [116,114,111,111,112]) (aq:¬ ld s=true) (bb:¬ s=aD [116,117,114,110]) (bT:¬ s=aD [116,114,111,111,112,115]) (cy:¬ s=aD [115,116,111,99,107]) (ec:s=aD [119,97,121]):T.done (s::r)=kq T 4 r T.way:=by
 unfold b5.done;dsimp only;rw [aMA aB,aMA κ,aMA τ,aMA aq,aMA bb,aMA bT,aMA cy,aMI ec]
theorem vF (aB:¬ s=aD [102,105,101,108,100]) (κ:¬ s=aD [98,97,115,101]) (τ:¬ s=aD [116,114,111,111,112]) (aq:¬ ld s=true) (bb:¬ s=aD [116,117,114,110]) (bT:¬ s=aD [116,114,111,111,112,115]) (cy:¬ s=aD [115,116,111,99,107]) (ec:¬ s=aD [119,97,121]) (ft:s=aD [115,101,101,110]):T.done (s::r)=kq T 1 r λ l=>if kn T.W (l.getD 0 0)≠0 then ⟨kn T.W (l.getD 0 0), [],T⟩ else ⟨0,en [((xP T.W (l.getD 0 0)).length:Int)],T⟩:=by
 unfold b5.done;dsimp only;rw [aMA aB,aMA κ,aMA τ,aMA aq,aMA bb,aMA bT,aMA cy,aMA ec,aMI ft]
theorem Bf (aB:¬ s=aD [102,105,101,108,100]) (κ:¬ s=aD [98,97,115,101]) (τ:¬ s=aD [116,114,111,111,112]) (aq:¬ ld s=true) (bb:¬ s=aD [116,117,114,110]) (bT:¬ s=aD [116,114,111,111,112,115]) (cy:¬ s=aD [115,116,111,99,107]) (ec:¬ s=aD [119,97,121]) (ft:¬ s=aD [115,101,101,110]) (o':s=aD [110,111,119]):T.done (s::r)=kq T 0 r λ _=>⟨0,en [T.W.now],T⟩:=by
 unfold b5.done;dsimp only;rw [aMA aB,aMA κ,aMA τ,aMA aq,aMA bb,aMA bT,aMA cy,aMA ec,aMA ft,aMI o']
theorem Ro (aB:¬ s=aD [102,105,101,108,100]) (κ:¬ s=aD [98,97,115,101]) (τ:¬ s=aD [116,114,111,111,112]) (aq:¬ ld s=true) (bb:¬ s=aD [116,117,114,110]) (bT:¬ s=aD [116,114,111,111,112,115]) (cy:¬ s=aD [115,116,111,99,107]) (ec:¬ s=aD [119,97,121]) (ft:¬ s=aD [115,101,101,110]) (o':¬ s=aD [110,111,119]):T.done (s::r)=⟨10, [],T⟩:=by
 unfold b5.done;dsimp only;rw [aMA aB,aMA κ,aMA τ,aMA aq,aMA bb,aMA bT,aMA cy,aMA ec,aMA ft,aMA o']
end
theorem ati {s:ByteArray} (h:s=aD [104,105,116]):decide (s=aD [104,105,116])=ld s:=by unfold ld;rw [aMV h];rfl
theorem ath {s:ByteArray} (κ:¬ s=aD [104,105,116]) (h:s=aD [103,111]):decide (s=aD [103,111])=ld s:=by unfold ld;rw [aMY κ,aMV h];rfl
theorem atk {s:ByteArray} (κ:¬ s=aD [104,105,116]) (τ:¬ s=aD [103,111]) (h:s=aD [109,105,110,101]):decide (s=aD [109,105,110,101])=ld s:=by unfold ld;rw [aMY κ,aMY τ,aMV h];rfl
theorem atg {s:ByteArray} (κ:¬ s=aD [104,105,116]) (τ:¬ s=aD [103,111]) (aq:¬ s=aD [109,105,110,101]) (h:s=aD [100,114,111,112]):decide (s=aD [100,114,111,112])=ld s:=by unfold ld;rw [aMY κ,aMY τ,aMY aq,aMV h];rfl
theorem atj {s:ByteArray} (κ:¬ s=aD [104,105,116]) (τ:¬ s=aD [103,111]) (aq:¬ s=aD [109,105,110,101]) (bb:¬ s=aD [100,114,111,112]):decide (s=aD [109,97,107,101])=ld s:=by unfold ld;rw [aMY κ,aMY τ,aMY aq,aMY bb];rfl
theorem gN.eh {T:b5} (k:gN w b h T):aO w b (ae.cells h.a T.W++ [.slice h.A T.L.length h.c]) 55 (0,0):=k.B
theorem gj.fresh {aM:World} {cp:gM} {T:b5} {P:Option Addr} (x:Ext w aM) (k:gN w' b cp T) (bJ:∀ q∈Φ.ab P,w.heap.size≤q) (hf:∀ q∈cp.cA,q∈Φ.ab P∨aM.heap.size≤q) (m:Mod [b] aM w'):gj w w' b h T :=
 ⟨cp,k,λ q I=> .inr ((hf q I).elim (bJ q) λ j=>aMR x.size j),(Mod.aP x).trans (m.sub λ q I=>by rw [aMu.1 I];exact aM5)⟩
theorem Uk:∀ {n:Nat} {ws:List ByteArray} {l:List Int},ea n ws=some l→∀ x∈l,0≤x
 | 0,ws,l,h=>by
  unfold ea at h;split at h
  ·cases h;intro x hx;cases hx
  ·cases h
 | n+1,ws,l,h=>by
  unfold ea at h;split at h
  ·cases h
  ·rw [aOl] at h;obtain ⟨k,aj,rfl⟩:=h;intro x hx;rcases aMN.1 hx with rfl | hx
   ·exact aQ2 _
   ·exact Uk aj x hx
theorem azy {A:Option Addr} {c:Nat} {l:List a8} (h:a8.rep.aQ 56 w A c l) (ay:l.length≤100):qP (l.map ue):=⟨by rw [aNf];omega,λ x hx=>by
 obtain ⟨t,aC,rfl⟩:=aMT.1 hx;obtain ⟨k,aj,e⟩:=aOj aC;exact aMR (U' (Zd h (k:=k) (by rw [aMy aj,e]))) (by decide)⟩
theorem av5:(7:Int)≠0:=by decide
theorem afu {s:ByteArray} (h:po s=0):(pw s).a7=0:=by
 cases hc:((pq s).a7 != 0 || !decide (ya (pq s)=s)) with
 | true=>unfold po at h;rw [aMI hc] at h;cases h
 | false =>
  rw [(afv hc).1];rw [aNj] at hc;simpa using hc.1
theorem afx (a b:UInt8):∀ (k:Nat) (s:List UInt8),(Lib.replaceK [a] [b] k s).length=s.length
 | 0,s=>rfl
 | k+1,s=>by
  unfold Lib.replaceK;split
  ·rfl
  ·rename_i h
   have hr:=Lib.index_room s [a] (by have:=Lib.index_ge s [a];have:¬ Lib.index s [a]= -1:=λ e=>h (by rw [e];rfl);omega);have aB:=Lib.index_ge s [a];have κ:¬ Lib.index s [a]= -1:=λ e=>h (by rw [e];rfl);simp only [aMB,aME,afx a b k,aM9,aMw,aMz] at hr ⊢;omega
theorem afy (a b:UInt8) (s:List UInt8):(Lib.replaceAll s [a] [b]).length=s.length:=by
 unfold Lib.replaceAll Lib.replace;split
 ·rfl
 ·exact afx a b _ s
theorem pV (l:List UInt8):(aD l).size=l.length:=by unfold aD;rw [aNA]
theorem apb {x:ByteArray}:(ss x).size=x.size+1:=by
 unfold ss;rw [aOa,pV,pV,afy,← aNA];rfl
theorem ayb (x:ByteArray) (w:World) (hx:x.size≤1048576) (av:lv w):Calls prog 43 #[.string x, .string (aD [47]), .string (aD [10])] w λ e w'=>e= .returned (.string (aD (Lib.replaceAll x.data.toList [47] [10])))∧Ext w w':=by
 obtain ⟨m,hm⟩:=av.m;have hc:=Lib.countB_mul_le (aD [47]) (by decide) x.size x (aMO _);have aR:(aD [47]).size=1:=rfl;have a6:(aD [10]).size=1:=rfl;exact strings_ReplaceAll x (aD [47]) (aD [10]) m w (by omega) hm (by decide) (by rw [aR] at hc;rw [a6];omega)
theorem Mod.awt (x:Below D w w'):Mod ((List.range w.heap.size).filter λ k=>decide (D≤k)) w w' :=
 ⟨x.os,x.tape,x.output,x.size,λ k aj hn=>x.block k (by
  by_cases h:k<D
  ·exact h
  ·exact absurd (aNO.2 ⟨aM8.2 aj,by simpa using h⟩) hn)⟩
theorem gN.below {w0:World} {T:b5} (k:gN w b h T) (x:Below D w w') (Gn:gN w0 b h T) (mM:w0.heap.size≤D):gN w' b h T :=
 k.mod (Mod.awt x) λ q I=>by
  have I:=aNt (aNO.1 I).2;have:=Gn.B.lt;exact ⟨by omega,λ hf=>by have:=(Gn.lt q hf).2;omega⟩
theorem ax1 {n:Nat} {E:List (Nat×Value)} {Q:Exit→Act→World→Prop} {ops:Array Oper} {id:Nat} (D:Nat) (hO:List (Nat×Nat)) (ba:List Nat) (hm:P.follows .mixedOrders=true) (aS:(Region.noSelect ops && (ba.length == ops.size) && hM ops (j7 hO) ba (Array.replicate ops.size false))=true)
  (h:AX D P n ops Q (j7 hO) ba E w):W P n (.region id ops true) Q E w:=λ a ha=>ax3 ba hm aS (h a ha)
theorem I0 {l:List Int} {i:Nat} (h:i<l.length):l.getD i 0∈l:=by rw [aMv,aMy h];exact aNK h
theorem apq {f:au} (h:f.a7=0):dz f.wide∧dz f.high:=by
 obtain ⟨κ,τ,aq,bb,_⟩:=au.g_ h;exact ⟨cH.2 (by omega),cH.2 (by omega)⟩
theorem Eb {E:List (Nat×Value)} {d:Option Nat} {ty:TypeId} {pos:String} {aW:Array Edge} {g:Option (Nat×Bool)} {x y:Operand} {t u:TypeId} {a b:ByteArray} (hx:ev E x=some (.string a)) (aH:ev E y=some (.string b)) (h:a.size+b.size≤9223372036854775807):
  cF P E ⟨d, .binOp .add t x y u,ty,pos,aW,g⟩ w (.string (a++b)) w:=λ n act ha=>by
 simp only [execOp,ha.ev hx,ha.ev aH,eqGuard,binOp_string_add,aML,aMP,aMG];have hs:(Op.stringOp .add a b).run P w= .ok (.string (a++b)) w:=by first | exact aP6 _ _ h | exact aP6 P w a b h | exact aP6 (P:=P) (w:=w) a b h
 simp [hs]
theorem anb (b az:Nat) (h:gM) (T:b5) (A:Option Addr) (c:Nat) (ws:List ByteArray) (w:World) (aX:gN w b h T) (tz:eU.aQ 16 w A c ws) (bB:∀ q∈Φ.ab A,q<w.heap.size) (hE:∀ x∈ws,x.size≤1048576) (av:fL az w) (sx:az≤b):
  Calls prog 32 #[.pointer (a_ b), .slice A ws.length c] w (iG w b h T (T.done ws)):=by
 have tZ:=aX.B.lt;have hS:=aX.W.S.has;have fc:=aX;have zN:=av;refine cx (n:=122) func32 Z Z Z ?_;refine eW Z Z λ dn bw bm fO ag=> ?_;have ja:=ag.lt;refine aU Z<|aI<|aG<| ?_;have hK:ke dn w.heap.size bw A c ws:=⟨ag,tz.keep bm,bB,by omega⟩;refine hy Ix Z Z ((Y8 w.heap.size bw _ _ ws _ hK).mono ?_);rintro e Pe (⟨TG,rfl,xh⟩ | ⟨s,r,PO,dW,TG,rfl,n7,kE⟩)
 ·refine .inl ⟨_,Z, ?_⟩;have lp:=Ext.mod bm xh bE;refine dP<|dP<|f_<| ?_;subst TG;exact .inl ⟨by rw [show T.done []=⟨10, [],T⟩ from rfl];exact oN,by rw [show T.done []=⟨10, [],T⟩ from rfl],by rw [show T.done []=⟨10, [],T⟩ from rfl];exact gj.same fc lp⟩
 refine .inr ⟨_,Z, ?_⟩;have:=kE.size;have lp:=Ext.mod bm kE bE;subst TG;refine aU Z<|aN Z<|aJ<|bV<|aG<|aa (kP underlying9 Z Z)<|aU Z<| ?_;refine c_ Z (λ bK=> ?_) (λ bK=> ?_)
 ·simp only [aMD,aMC] at bK;refine aG<|hy Ix Z Z ((Y8 w.heap.size bw _ _ r _ n7).mono ?_);rintro e yQ (⟨TH,rfl,gi⟩ | ⟨x,r2,Wl,Yg,TH,rfl,HB,jM⟩)
  ·refine .inl ⟨_,Z, ?_⟩;have iu:=Ext.mod lp gi bE;refine dP<|ko<|dP<|f_<| ?_;subst TH;exact .inl ⟨by rw [Fp bK (λ x e=>by cases e)];exact oN,by rw [Fp bK (λ x e=>by cases e)],by rw [Fp bK (λ x e=>by cases e)];exact gj.same fc iu⟩
  refine .inr ⟨_,Z, ?_⟩;have:=jM.size;have iu:=Ext.mod lp jM bE;subst TH;have aGF:=hE x (aMK _ aM5);refine aU Z<|aG<|aa (aA Z (HB.eh.one Fq Z))<|aa (dC underlying57 Z)<|aa (beq Z Z)<|hy Fs Z Z ((It (((((r2).length:Nat):Int))== 0) _).mono ?_);rintro e rL (⟨hc,rfl,jS⟩ | ⟨hc,rfl,eC⟩)
  ·refine .inl ⟨_,Z, ?_⟩;have hU:=J iu jS;refine dP<|ko<|dP<|f_<| ?_;exact .inl ⟨by rw [Fp bK (λ y e=>by cases e;simp at hc)];exact oN,by rw [Fp bK (λ y e=>by cases e;simp at hc)],by rw [Fp bK (λ y e=>by cases e;simp at hc)];exact gj.same fc hU⟩
  refine .inr ⟨_,Z, ?_⟩;have:=eC.size;have hU:=J iu eC;have abM:r2= []:=aM3 (by simpa using hc);subst abM;refine aJ<|aN Z<| ?_;have av:=(((av.later bm).mod kE (λ q I=>by have:=I;simp only [aMu] at this;omega)).mod jM (λ q I=>by have:=I;simp only [aMu] at this;omega)).later eC;refine de aoi Z (ayb x _ (by omega) av.eb) λ yS jc=> ?_;have:=jc.size;have lY:=J hU jc;refine aa (v:= .string (ss x)) (Eb Z Z (by rw [pV,afy,pV,← aNA];simp only [aMw,aMz];omega))<|ca aoj Z Z ((axX (ss x) _ (by rw [apb];omega)).mono ?_);rintro e Au ⟨akh,awP,rfl,HR,eK⟩;refine cK ?_;have:=eK.size;have jd:=J lY eK;have Ve:=bY HR.lt;refine vm Z<|b2 Z Z<|b2 Z Z<|dj Rv Z λ Cc aD8 fU aHO Hm=> ?_;have n3:=J jd fU;refine c6 Z Z Hm Z gy Z Z λ Vy wH Hm=> ?_;have xq:=Ext.mod n3 wH bE;refine aU Z<|aN Z<|hy xX Z Z ((Bd (po (ss x)) _).mono ?_);rintro e xd (⟨tE,rfl,iq⟩ | ⟨tE,rfl,rP⟩)
  ·refine .inl ⟨_,Z, ?_⟩;have nk:=J xq iq;refine dP<|ko<|dP<|f_<| ?_;exact .inl ⟨by rw [Rn bK tE];exact tE,by rw [Rn bK tE],by rw [Rn bK tE];exact gj.same fc nk⟩
  refine .inr ⟨_,Z, ?_⟩;have nk:=J xq rP;refine aJ<|aN Z<| ?_;have Hm:=Hm.later rP;refine aa (aA Z (Hm.all gZ gy))<| ?_;have aX:=(((((aX.later bm).mod kE (λ q I=>by have:=I;simp only [aMu] at this;exact ⟨by omega,λ hf=>by have:=(fc.lt q hf).2;omega⟩)).mod jM (λ q I=>by have:=I;simp only [aMu] at this;exact ⟨by omega,λ hf=>by have:=(fc.lt q hf).2;omega⟩)).later (J eC (J jc (J eK fU)))).mod wH (λ q I=>by have:=I;simp only [aMu] at this;exact ⟨by omega,λ hf=>by have:=(fc.lt q hf).2;omega⟩)).later rP;have HR:=((HR.later fU).mod wH (bk Ve)).later rP;refine ca ZH Z Z ((aac b _ _ _ _ _ _ _ _ _ _ (pw (ss x)) akh awP _ aX.B (HR.down (by omega)) (au.km (afu tE)) (apq (afu tE))).mono ?_);rintro e Em ⟨rfl,ft,TR,f8,m8⟩;refine cK ?_;refine aJ<|aG<|bL Z<|hk<|cW<|c' Z Z<| ?_;exact .inr ⟨by rw [Iu bK tE],none,0,by rw [Iu bK tE];rfl,by rw [Iu bK tE];exact Φ.aL.nil _,by rw [Iu bK tE];exact ZZ,by rw [Iu bK tE];exact gj.fresh nk TR (λ q I=>by have:=(HR.lt q I).1;omega) f8 m8⟩
 ·simp only [aMD,aMC] at bK;refine aG<|aa (kP underlying9 Z Z)<|aU Z<| ?_;refine c_ Z (λ cg=> ?_) (λ cg=> ?_)
  ·simp only [aMD,aMC] at cg;refine aN Z<| ?_;have av:=(av.later bm).mod kE (λ q I=>by have:=I;simp only [aMu] at this;omega);refine hy q5 Z Z ((rD w.heap.size bw _ _ r 3 _ n7 (av.up (by omega)) (by decide)).mono ?_);rintro e um (⟨sv,rfl,fl⟩ | ⟨aHh,aCG,aEN,sv,rfl,Qw,Ot⟩)
   ·refine .inl ⟨_,Z, ?_⟩;have jU:=Ext.mod lp fl bE;refine dP<|ko<|dP<|f_<| ?_;exact .inl ⟨by rw [tl bK cg,gA sv];exact oN,by rw [tl bK cg,gA sv],by rw [tl bK cg,gA sv];exact gj.same fc jU⟩
   refine .inr ⟨_,Z, ?_⟩;have:=Ot.size;have jU:=Ext.mod lp Ot bE;have arW:=wN sv;have ar7:=rk Qw.has;have aX:=((aX.later bm).mod kE (λ q I=>by have:=I;simp only [aMu] at this;exact ⟨by omega,λ hf=>by have:=(fc.lt q hf).2;omega⟩)).mod Ot (λ q I=>by have:=I;simp only [aMu] at this;exact ⟨by omega,λ hf=>by have:=(fc.lt q hf).2;omega⟩);have av:=av.mod Ot (λ q I=>by have:=I;simp only [aMu] at this;omega);refine hy aok Z Z ((akW b az h T _ _ _ _ aX Qw.has arW ar7 av (by omega) (λ q I hf=>by have:=(Qw.lt q I).1;rcases aMN.1 hf with hf | hf;omega;have:=(fc.lt q hf).2;omega)).mono ?_);rintro e Eo (⟨hr,rfl,kS⟩ | ⟨hr,uR,vB,rfl,vo,vJ,kS⟩)
   ·refine .inl ⟨_,Z, ?_⟩;refine dP<|ko<|dP<|f_<| ?_;exact .inl ⟨by rw [tl bK cg,c7 sv];exact hr,by rw [tl bK cg,c7 sv],by rw [tl bK cg,c7 sv];exact kS.before jU⟩
   refine .inr ⟨_,Z, ?_⟩;refine bL Z<|hk<|cW<|c' Z Z<| ?_;exact .inr ⟨by rw [tl bK cg,c7 sv];exact hr,uR,vB,by rw [tl bK cg,c7 sv];rfl,by rw [tl bK cg,c7 sv];exact vo.down (by omega),by rw [tl bK cg,c7 sv];exact vJ,by rw [tl bK cg,c7 sv];exact kS.before jU⟩
  ·simp only [aMD,aMC] at cg;refine aG<|aa (kP underlying9 Z Z)<|aU Z<| ?_;refine c_ Z (λ cB=> ?_) (λ cB=> ?_)
   ·simp only [aMD,aMC] at cB;refine aN Z<| ?_;have av:=(av.later bm).mod kE (λ q I=>by have:=I;simp only [aMu] at this;omega);refine hy q5 Z Z ((rD w.heap.size bw _ _ r 4 _ n7 (av.up (by omega)) (by decide)).mono ?_);rintro e Po (⟨sw,rfl,iO⟩ | ⟨aHi,aCJ,aEP,sw,rfl,Qx,yB⟩)
    ·refine .inl ⟨_,Z, ?_⟩;have uN:=Ext.mod lp iO bE;refine dP<|ko<|dP<|f_<| ?_;exact .inl ⟨by rw [tq bK cg cB,gA sw];exact oN,by rw [tq bK cg cB,gA sw],by rw [tq bK cg cB,gA sw];exact gj.same fc uN⟩
    refine .inr ⟨_,Z, ?_⟩;have:=yB.size;have uN:=Ext.mod lp yB bE;have abz:=wN sw;have ar8:=rk Qx.has;have aX:=((aX.later bm).mod kE (λ q I=>by have:=I;simp only [aMu] at this;exact ⟨by omega,λ hf=>by have:=(fc.lt q hf).2;omega⟩)).mod yB (λ q I=>by have:=I;simp only [aMu] at this;exact ⟨by omega,λ hf=>by have:=(fc.lt q hf).2;omega⟩);have av:=av.mod yB (λ q I=>by have:=I;simp only [aMu] at this;omega);refine hy aol Z Z ((azu b az h T _ _ _ _ aX Qx.has abz ar8 av (by omega) (λ q I hf=>by have:=(Qx.lt q I).1;rcases aMN.1 hf with hf | hf;omega;have:=(fc.lt q hf).2;omega)).mono ?_);rintro e VF (⟨hr,rfl,kS⟩ | ⟨hr,uR,vB,rfl,vo,vJ,kS⟩)
    ·refine .inl ⟨_,Z, ?_⟩;refine dP<|ko<|dP<|f_<| ?_;exact .inl ⟨by rw [tq bK cg cB,c7 sw];exact hr,by rw [tq bK cg cB,c7 sw],by rw [tq bK cg cB,c7 sw];exact kS.before uN⟩
    refine .inr ⟨_,Z, ?_⟩;refine bL Z<|hk<|cW<|c' Z Z<| ?_;exact .inr ⟨by rw [tq bK cg cB,c7 sw];exact hr,uR,vB,by rw [tq bK cg cB,c7 sw];rfl,by rw [tq bK cg cB,c7 sw];exact vo.down (by omega),by rw [tq bK cg cB,c7 sw];exact vJ,by rw [tq bK cg cB,c7 sw];exact kS.before uN⟩
   ·simp only [aMD,aMC] at cB;refine Kr (λ cw aV=>∃ Vp:Bool,cw= [(0, .pointer (a_ b)),(3, .pointer (a_ bw)),(4, .slice none 0 0),(5, .string s),(13, .string s),(43, .bool Vp)]∧Ext w aV∧gN aV b h T∧fL az aV∧ke aV w.heap.size bw PO dW r∧(Vp=ld s)) ?_ ?_
    ·refine aG<|aa (kP underlying9 Z Z)<|aU Z<| ?_;refine c_ Z (λ Bu=> ?_) (λ Bu=> ?_)
     ·simp only [aMD,aMC] at Bu;refine gb<| ?_;have aX:=(aX.later bm).mod kE (λ q I=>by have:=I;simp only [aMu] at this;exact ⟨by omega,λ hf=>by have:=(fc.lt q hf).2;omega⟩);have av:=(av.later bm).mod kE (λ q I=>by have:=I;simp only [aMu] at this;omega);exact ml _ ⟨decide (s=aD [104,105,116]),Z,lp,aX,av,n7,ati Bu⟩ (ib Z)
     ·simp only [aMD,aMC] at Bu;refine aG<|aa (kP underlying9 Z Z)<|aU Z<| ?_;refine c_ Z (λ De=> ?_) (λ De=> ?_)
      ·simp only [aMD,aMC] at De;refine gb<| ?_;have aX:=(aX.later bm).mod kE (λ q I=>by have:=I;simp only [aMu] at this;exact ⟨by omega,λ hf=>by have:=(fc.lt q hf).2;omega⟩);have av:=(av.later bm).mod kE (λ q I=>by have:=I;simp only [aMu] at this;omega);exact ml _ ⟨decide (s=aD [103,111]),Z,lp,aX,av,n7,ath Bu De⟩ (ib Z)
      ·simp only [aMD,aMC] at De;refine aG<|aa (kP underlying9 Z Z)<|aU Z<| ?_;refine c_ Z (λ FY=> ?_) (λ FY=> ?_)
       ·simp only [aMD,aMC] at FY;refine gb<| ?_;have aX:=(aX.later bm).mod kE (λ q I=>by have:=I;simp only [aMu] at this;exact ⟨by omega,λ hf=>by have:=(fc.lt q hf).2;omega⟩);have av:=(av.later bm).mod kE (λ q I=>by have:=I;simp only [aMu] at this;omega);exact ml _ ⟨decide (s=aD [109,105,110,101]),Z,lp,aX,av,n7,atk Bu De FY⟩ (ib Z)
       ·simp only [aMD,aMC] at FY;refine aG<|aa (kP underlying9 Z Z)<|aU Z<| ?_;refine c_ Z (λ Jb=> ?_) (λ Jb=> ?_)
        ·simp only [aMD,aMC] at Jb;refine gb<| ?_;have aX:=(aX.later bm).mod kE (λ q I=>by have:=I;simp only [aMu] at this;exact ⟨by omega,λ hf=>by have:=(fc.lt q hf).2;omega⟩);have av:=(av.later bm).mod kE (λ q I=>by have:=I;simp only [aMu] at this;omega);exact ml _ ⟨decide (s=aD [100,114,111,112]),Z,lp,aX,av,n7,atg Bu De FY Jb⟩ (ib Z)
        ·simp only [aMD,aMC] at Jb;refine rg<|aa (kP underlying9 Z Z)<|va Z<|nl<| ?_;have aX:=(aX.later bm).mod kE (λ q I=>by have:=I;simp only [aMu] at this;exact ⟨by omega,λ hf=>by have:=(fc.lt q hf).2;omega⟩);have av:=(av.later bm).mod kE (λ q I=>by have:=I;simp only [aMu] at this;omega);exact ml _ ⟨decide (s=aD [109,97,107,101]),Z,lp,aX,av,n7,atj Bu De FY Jb⟩ (ib Z)
    rintro aDk Ep ⟨Vp,rfl,jV,aX,av,n7,abU⟩;have:=jV.size;refine c_ Z (λ SU=> ?_) (λ SU=> ?_)
    ·have c0:ld s=true:=by rw [← abU];exact SU
     refine aN Z<|vm Z<|hy aom Z Z ((awC b bw az h T s _ _ r w _ jV fc n7 av (by omega) (by omega)).mono ?_);rintro e agV (⟨hr,rfl,kS⟩ | ⟨hr,uR,vB,rfl,vo,vJ,kS⟩)
     ·refine .inl ⟨_,Z, ?_⟩;refine dP<|ko<|dP<|f_<| ?_;exact .inl ⟨by rw [zE bK cg cB c0];exact hr,by rw [zE bK cg cB c0],by rw [zE bK cg cB c0];exact kS⟩
     refine .inr ⟨_,Z, ?_⟩;refine bL Z<|hk<|cW<|c' Z Z<| ?_;exact .inr ⟨by rw [zE bK cg cB c0];exact hr,uR,vB,by rw [zE bK cg cB c0];rfl,by rw [zE bK cg cB c0];exact vo.down (by omega),by rw [zE bK cg cB c0];exact vJ,by rw [zE bK cg cB c0];exact kS⟩
    ·have c0:¬ ld s=true:=by rw [← abU];exact (by rw [SU];decide)
     refine aG<|aa (kP underlying9 Z Z)<|aU Z<| ?_;refine c_ Z (λ dr=> ?_) (λ dr=> ?_)
     ·simp only [aMD,aMC] at dr;refine aG<|hy q5 Z Z ((rD w.heap.size bw _ _ r 0 _ n7 (av.up (by omega)) (by decide)).mono ?_);rintro e Pt (⟨tA,rfl,jE⟩ | ⟨aHj,aCL,aER,tA,rfl,aDu,nL⟩)
      ·refine .inl ⟨_,Z, ?_⟩;have uQ:=Ext.mod jV jE bE;refine dP<|ko<|dP<|f_<| ?_;exact .inl ⟨by rw [tr bK cg cB c0 dr,gA tA];exact oN,by rw [tr bK cg cB c0 dr,gA tA],by rw [tr bK cg cB c0 dr,gA tA];exact gj.same fc uQ⟩
      refine .inr ⟨_,Z, ?_⟩;have:=nL.size;have uQ:=Ext.mod jV nL bE;refine aJ<|aN Z<| ?_;have aX:=aX.mod nL (λ q I=>by have:=I;simp only [aMu] at this;exact ⟨by omega,λ hf=>by have:=(fc.lt q hf).2;omega⟩);have av:=av.mod nL (λ q I=>by have:=I;simp only [aMu] at this;omega);refine hy aon Z Z ((anw b az h T _ aX av (by omega)).mono ?_);rintro e agZ (⟨hr,rfl,kS⟩ | ⟨hr,uR,vB,rfl,vo,vJ,kS⟩)
      ·refine .inl ⟨_,Z, ?_⟩;refine dP<|ko<|dP<|f_<| ?_;exact .inl ⟨by rw [tr bK cg cB c0 dr,c7 tA];exact hr,by rw [tr bK cg cB c0 dr,c7 tA],by rw [tr bK cg cB c0 dr,c7 tA];exact kS.before uQ⟩
      refine .inr ⟨_,Z, ?_⟩;refine bL Z<|hk<|cW<|c' Z Z<| ?_;exact .inr ⟨by rw [tr bK cg cB c0 dr,c7 tA];exact hr,uR,vB,by rw [tr bK cg cB c0 dr,c7 tA];rfl,by rw [tr bK cg cB c0 dr,c7 tA];exact vo.down (by omega),by rw [tr bK cg cB c0 dr,c7 tA];exact vJ,by rw [tr bK cg cB c0 dr,c7 tA];exact kS.before uQ⟩
     ·simp only [aMD,aMC] at dr;refine aG<|aa (kP underlying9 Z Z)<|aU Z<| ?_;refine c_ Z (λ ed=> ?_) (λ ed=> ?_)
      ·simp only [aMD,aMC] at ed;refine aG<|hy q5 Z Z ((rD w.heap.size bw _ _ r 0 _ n7 (av.up (by omega)) (by decide)).mono ?_);rintro e aAb (⟨zQ,rfl,aA9⟩ | ⟨aHe,aCx,aEA,zQ,rfl,aDs,tP⟩)
       ·refine .inl ⟨_,Z, ?_⟩;have K7:=Ext.mod jV aA9 bE;refine dP<|ko<|dP<|f_<| ?_;exact .inl ⟨by rw [zF bK cg cB c0 dr ed,gA zQ];exact oN,by rw [zF bK cg cB c0 dr ed,gA zQ],by rw [zF bK cg cB c0 dr ed,gA zQ];exact gj.same fc K7⟩
       refine .inr ⟨_,Z, ?_⟩;have:=tP.size;have K7:=Ext.mod jV tP bE;refine aJ<|aN Z<| ?_;have aX:=aX.mod tP (λ q I=>by have:=I;simp only [aMu] at this;exact ⟨by omega,λ hf=>by have:=(fc.lt q hf).2;omega⟩);have av:=av.mod tP (λ q I=>by have:=I;simp only [aMu] at this;omega);refine ca aoo Z Z ((anv b az h T _ aX av (by omega)).mono ?_);rintro e Vu ⟨PO,dW,rfl,ajx,aBa⟩;refine cK ?_;have EC:=J K7 aBa;refine bL Z<|hk<|cW<|c' Z Z<| ?_;exact .inr ⟨by rw [zF bK cg cB c0 dr ed,c7 zQ],PO,dW,by rw [zF bK cg cB c0 dr ed,c7 zQ];rfl,by rw [zF bK cg cB c0 dr ed,c7 zQ];exact ajx.down (by omega),by rw [zF bK cg cB c0 dr ed,c7 zQ];exact azy fc.W.T.has fc.cC.dH,by rw [zF bK cg cB c0 dr ed,c7 zQ];exact gj.same fc EC⟩
      ·simp only [aMD,aMC] at ed;refine aG<|aa (kP underlying9 Z Z)<|aU Z<| ?_;refine c_ Z (λ eE=> ?_) (λ eE=> ?_)
       ·simp only [aMD,aMC] at eE;refine aG<|hy q5 Z Z ((rD w.heap.size bw _ _ r 1 _ n7 (av.up (by omega)) (by decide)).mono ?_);rintro e Vv (⟨p6,rfl,mz⟩ | ⟨nJ,aCy,aEB,p6,rfl,Xv,wv⟩)
        ·refine .inl ⟨_,Z, ?_⟩;have xp:=Ext.mod jV mz bE;refine dP<|ko<|dP<|f_<| ?_;exact .inl ⟨by rw [vG bK cg cB c0 dr ed eE,gA p6];exact oN,by rw [vG bK cg cB c0 dr ed eE,gA p6],by rw [vG bK cg cB c0 dr ed eE,gA p6];exact gj.same fc xp⟩
        refine .inr ⟨_,Z, ?_⟩;have:=wv.size;have xp:=Ext.mod jV wv bE;have aGh:=wN p6;refine aa (bX 0 underlying46 cr Z Z (Xv.has.bx (a1 0)) Z (by omega))<|aa (aA Z (Φ.aQ.dm dy (Xv.has.ck (a1 0)) (cl (l:=nJ) (u:=0) (j:=0) (by omega)) Z aZ))<|aU Z<|aI<|aN Z<|vm Z<|aa (b1 Z)<|aa (ar q4 Z)<|aa (ar tv Z)<| ?_;have aX:=aX.mod wv (λ q I=>by have:=I;simp only [aMu] at this;exact ⟨by omega,λ hf=>by have:=(fc.lt q hf).2;omega⟩);refine aa (aA Z (aX.eh.one fC Z))<|aa (dC underlying46 Z)<|aa (k7 Z Z)<|aJ<| ?_;refine CW Z (λ SB=> ?_) (λ SB=> ?_)
        ·have l':=Uk p6 _ (I0 (l:=nJ) (i:=0) (by omega));refine rg<|E9 xX Z ((Rh 7 _ (by decide)).mono ?_);rintro e Pg ⟨rfl,nW⟩;refine cK ?_;have Co:=J xp nW;refine dP<|ko<|dP<|f_<| ?_;exact .inl ⟨by rw [vG bK cg cB c0 dr ed eE,c7 p6,aMI (show (T.W.bh.length:Int)≤nJ.getD 0 0 by omega)];exact av5,by rw [vG bK cg cB c0 dr ed eE,c7 p6,aMI (show (T.W.bh.length:Int)≤nJ.getD 0 0 by omega)],by rw [vG bK cg cB c0 dr ed eE,c7 p6,aMI (show (T.W.bh.length:Int)≤nJ.getD 0 0 by omega)];exact gj.same fc Co⟩
        ·have l':=Uk p6 _ (I0 (l:=nJ) (i:=0) (by omega));refine bF<|aN Z<|aa (b1 Z)<|aa (ar q4 Z)<|aa (ar tv Z)<|aa (aA Z (aX.eh.one fC Z))<|vm Z<|aa (bX ((nJ.getD 0 0).toNat) underlying46 cr Z Z ((hS.keep xp).bx (a1 ((nJ.getD 0 0).toNat))) (by omega) (by omega))<|aa (aA Z (Φ.aQ.dm dy ((hS.keep xp).ck (a1 ((nJ.getD 0 0).toNat))) (cl (l:=T.W.bh) (u:=0) (by omega)) Z aZ))<|b9 (e:= 3) (cs:= [γ (T.W.bh.getD ((nJ.getD 0 0).toNat) 0)]) Z (λ _=>by kernel_rfl) Z λ aAg aDV xj aHw aiq=> ?_;have:=xj.size;have V1:=J xp xj;have av:=(av.mod wv (λ q I=>by have:=I;simp only [aMu] at this;omega)).later xj;refine ca xZ Z Z ((yJ _ _ ([T.W.bh.getD ((nJ.getD 0 0).toNat) 0]) _ _ (aO.zW (R:=bz) (by_:=8) (k:= [T.W.bh.getD ((nJ.getD 0 0).toNat) 0]) aiq [[γ (T.W.bh.getD ((nJ.getD 0 0).toNat) 0)]] Z (⟨⟨Z,rk hS _ (I0 (by omega))⟩,trivial⟩) (by simp) (by simp)) (λ x hx=>by rw [aMu.1 hx];exact rk hS _ (I0 (by omega))) (by simp) av (by omega)).mono ?_);rintro e aAi ⟨ahw,alh,rfl,ajB,qH⟩;refine cK ?_;have V3:=J V1 qH;refine bL Z<|hk<|cW<|c' Z Z<| ?_;exact .inr ⟨by rw [vG bK cg cB c0 dr ed eE,c7 p6,aMA (show ¬ (T.W.bh.length:Int)≤nJ.getD 0 0 by omega)],ahw,alh,by rw [vG bK cg cB c0 dr ed eE,c7 p6,aMA (show ¬ (T.W.bh.length:Int)≤nJ.getD 0 0 by omega)];rfl,by rw [vG bK cg cB c0 dr ed eE,c7 p6,aMA (show ¬ (T.W.bh.length:Int)≤nJ.getD 0 0 by omega)];exact ajB.down (by omega),by rw [vG bK cg cB c0 dr ed eE,c7 p6,aMA (show ¬ (T.W.bh.length:Int)≤nJ.getD 0 0 by omega)];exact Bk (λ x hx=>by rw [aMu.1 hx];exact rk hS _ (I0 (by omega))) (by simp),by rw [vG bK cg cB c0 dr ed eE,c7 p6,aMA (show ¬ (T.W.bh.length:Int)≤nJ.getD 0 0 by omega)];exact gj.same fc V3⟩
       ·simp only [aMD,aMC] at eE;refine aG<|aa (kP underlying9 Z Z)<|aU Z<| ?_;refine c_ Z (λ gS=> ?_) (λ gS=> ?_)
        ·simp only [aMD,aMC] at gS;refine aN Z<|hy q5 Z Z ((rD w.heap.size bw _ _ r 4 _ n7 (av.up (by omega)) (by decide)).mono ?_);rintro e aLk (⟨su,rfl,aBb⟩ | ⟨aHf,aCz,aEC,su,rfl,ajz,Oj⟩)
         ·refine .inl ⟨_,Z, ?_⟩;have PK:=Ext.mod jV aBb bE;refine dP<|ko<|dP<|f_<| ?_;exact .inl ⟨by rw [vH bK cg cB c0 dr ed eE gS,gA su];exact oN,by rw [vH bK cg cB c0 dr ed eE gS,gA su],by rw [vH bK cg cB c0 dr ed eE gS,gA su];exact gj.same fc PK⟩
         refine .inr ⟨_,Z, ?_⟩;have:=Oj.size;have PK:=Ext.mod jV Oj bE;have arU:=wN su;have aX:=aX.mod Oj (λ q I=>by have:=I;simp only [aMu] at this;exact ⟨by omega,λ hf=>by have:=(fc.lt q hf).2;omega⟩);have av:=av.mod Oj (λ q I=>by have:=I;simp only [aMu] at this;omega);refine hy aop Z Z ((aAF b az h T _ _ _ _ aX ajz.has arU av (by omega)).mono ?_);rintro e Vw (⟨hr,rfl,kS⟩ | ⟨hr,uR,vB,rfl,vo,vJ,kS⟩)
         ·refine .inl ⟨_,Z, ?_⟩;refine dP<|ko<|dP<|f_<| ?_;exact .inl ⟨by rw [vH bK cg cB c0 dr ed eE gS,c7 su];exact hr,by rw [vH bK cg cB c0 dr ed eE gS,c7 su],by rw [vH bK cg cB c0 dr ed eE gS,c7 su];exact kS.before PK⟩
         refine .inr ⟨_,Z, ?_⟩;refine bL Z<|hk<|cW<|c' Z Z<| ?_;exact .inr ⟨by rw [vH bK cg cB c0 dr ed eE gS,c7 su];exact hr,uR,vB,by rw [vH bK cg cB c0 dr ed eE gS,c7 su];rfl,by rw [vH bK cg cB c0 dr ed eE gS,c7 su];exact vo.down (by omega),by rw [vH bK cg cB c0 dr ed eE gS,c7 su];exact vJ,by rw [vH bK cg cB c0 dr ed eE gS,c7 su];exact kS.before PK⟩
        ·simp only [aMD,aMC] at gS;refine aG<|aa (kP underlying9 Z Z)<|aU Z<| ?_;refine c_ Z (λ kj=> ?_) (λ kj=> ?_)
         ·simp only [aMD,aMC] at kj;refine aI<| ?_;cases mN:ea 1 r with
          | none =>
           refine axV (c:=4) (ch:=nR 10) (R:=λ wZ=>Mod [bw] Ep wZ) [0,1,2,3] (by kernel_rfl) Z q5 (by kernel_rfl) (λ B' jz=>(rD w.heap.size bw _ _ r 1 B' (n7.later jz) ((av.later jz).up (by omega)) (by decide)).mono λ e wZ Gp=>by rcases Gp with ⟨_,dt,ey⟩ | ⟨_,_,_,dt,_⟩;exact ⟨dt,(Mod.aP jz).trans ey⟩;rw [mN] at dt;cases dt) ?_ ?_
           ·intro aCV wZ m9;have z9:=Ext.mod jV m9 bE;refine dP<|ko<|dP<|f_<| ?_;exact .inl ⟨by rw [vF bK cg cB c0 dr ed eE gS kj,gA mN];exact oN,by rw [vF bK cg cB c0 dr ed eE gS kj,gA mN],by rw [vF bK cg cB c0 dr ed eE gS kj,gA mN];exact gj.same fc z9⟩
           ·exact OS Z Z Z (λ _ x=>jx Z)<|OS Z Z Z (λ _ x=>b1 Z)<|OS Z Z Z (λ _ x=>ar q4 Z)<|OS Z Z Z (λ _ x=>aA Z ((aX.later x).eh.par [γ T.W.field.wide,γ T.W.field.high, .slice h.a.P T.W.field.places.length h.a.p, .slice h.a.B T.W.bj.length h.a.b, .slice h.a.S T.W.bh.length h.a.s, .slice h.a.M T.W.bW.length h.a.m, .slice h.a.T T.W.ah.length h.a.t,γ T.W.next,γ T.W.now] fb cP Z))<|axT Z
          | some l =>
           have aGp:=wN mN;refine ax1 w.heap.size [(3,0),(4,2),(6,2),(7,2)] [0,1,2,3,4,5,6,7,8,9,10,11,12] (by kernel_rfl) (by kernel_rfl) ?_;refine zM Z Z (λ _=>jx Z) Z<|zM Z Z (λ _=>b1 Z) Z<|zM Z Z (λ _=>ar q4 Z) Z<|apy (v:= .agg #[γ T.W.field.wide,γ T.W.field.high, .slice h.a.P T.W.field.places.length h.a.p, .slice h.a.B T.W.bj.length h.a.b, .slice h.a.S T.W.bh.length h.a.s, .slice h.a.M T.W.bW.length h.a.m, .slice h.a.T T.W.ah.length h.a.t,γ T.W.next,γ T.W.now]) Z Z (λ _ x=>aA Z ((aX.below (x.2 (by omega)) fc (aMO _)).eh.par [γ T.W.field.wide,γ T.W.field.high, .slice h.a.P T.W.field.places.length h.a.p, .slice h.a.B T.W.bj.length h.a.b, .slice h.a.S T.W.bh.length h.a.s, .slice h.a.M T.W.bW.length h.a.m, .slice h.a.T T.W.ah.length h.a.t,γ T.W.next,γ T.W.now] fb cP Z)) Z<| ?_;refine R1 Z Z Z λ B' jz Q Nv=>ca q5 Z Z ((rD w.heap.size bw _ _ r 1 B' (n7.later jz) ((av.later jz).up (by omega)) (by decide)).mono ?_);rintro e wZ (⟨dt,_⟩ | ⟨qj,Ct,dV,dt,rfl,Xu,m7⟩)
           ·rw [mN] at dt;cases dt
           have C1:qj=l:=by rw [mN] at dt;cases dt;rfl
           subst C1;have ja:=jz.size;refine ⟨_,Z,Nv _ _ ⟨mD.md jz m7 (λ q I=>by rw [aMu.1 I];omega), ?_⟩⟩;have ng:Ext w wZ:=Ext.mod (J jV jz) m7 (λ q I=>by rw [aMu.1 I];omega);refine zM (v:= .pointer (some ⟨et Ct,jO Ct+0 * 1,none⟩)) Z Z (λ _=>bX 0 underlying46 cr Z Z (Xu.has.bx (by omega)) Z (by omega)) Z<|R1 Z Z Z λ qC j' Q aqd=>aa (v:=γ (qj.getD 0 0)) (aA Z (Φ.aQ.dm dy ((Xu.later j').has.ck (by omega)) (cl (l:=qj) (u:=0) (j:=0) (by omega)) Z aZ))<|aqd _ _ ⟨mD.of j', ?_⟩;refine R1 Z Z Z λ w3 ih Q aqc=>ca aoq Z Z ((amm h.a T.W (qj.getD 0 0) _ (fc.W.has.keep (J ng (J j' ih)))).mono ?_);rintro e b' ⟨aCH,dw,rfl,Qv,fQ⟩;refine ⟨_,Z,aqc _ _ ⟨mD.of (J ih fQ), ?_⟩⟩;refine zM Z Z (λ _=>jx Z) Z<|zM Z Z (λ _=>ex Z Z) Z<|zM Z Z (λ _=>ex Z Z) Z<|zM Z Z (λ _=>eQ Z) Z<|zM Z Z (λ _=>eQ Z) Z<|apt λ nU nd=> ?_;have z4:=J ng (J j' (J ih (J fQ nd)));have:=z4.size;have aX:=fc.later z4;have av:=zN.later z4;refine br<|aN Z<|hy xX Z Z ((Bd (kn T.W (qj.getD 0 0)) _).mono ?_);rintro e agL (⟨hc,rfl,kH⟩ | ⟨hc,rfl,VQ⟩)
           ·refine .inl ⟨_,Z, ?_⟩;have ED:=J z4 kH;refine dP<|ko<|dP<|f_<| ?_;exact .inl ⟨by rw [vF bK cg cB c0 dr ed eE gS kj,c7 mN,aMI hc];exact hc,by rw [vF bK cg cB c0 dr ed eE gS kj,c7 mN,aMI hc],by rw [vF bK cg cB c0 dr ed eE gS kj,c7 mN,aMI hc];exact gj.same fc ED⟩
           refine .inr ⟨_,Z, ?_⟩;have:=VQ.size;have ED:=J z4 VQ;refine aJ<|aN Z<|aa (dC underlying49 Z)<|b9 (e:= 3) (cs:= [γ ((((xP T.W (qj.getD 0 0)).length:Nat):Int))]) Z (λ _=>by kernel_rfl) Z λ aLq aD0 VR aHD ais=> ?_;have:=VR.size;have aBI:=J ED VR;have av:=av.later (J VQ VR);refine ca xZ Z Z ((yJ _ _ ([(((xP T.W (qj.getD 0 0)).length:Nat):Int)]) _ _ (aO.zW (R:=bz) (by_:=8) (k:= [(((xP T.W (qj.getD 0 0)).length:Nat):Int)]) ais [[γ ((((xP T.W (qj.getD 0 0)).length:Nat):Int))]] Z (⟨⟨Z,cH.2 (by have:=Qv.has.km;omega)⟩,trivial⟩) (by simp) (by simp)) (λ x hx=>by rw [aMu.1 hx];exact cH.2 (by have:=Qv.has.km;omega)) (by simp) av (by omega)).mono ?_);rintro e aLw ⟨ahy,alj,rfl,ajD,aBc⟩;refine cK ?_;have aBO:=J aBI aBc;refine bL Z<|hk<|cW<|c' Z Z<| ?_;exact .inr ⟨by rw [vF bK cg cB c0 dr ed eE gS kj,c7 mN,aMA (by omega)],ahy,alj,by rw [vF bK cg cB c0 dr ed eE gS kj,c7 mN,aMA (by omega)];rfl,by rw [vF bK cg cB c0 dr ed eE gS kj,c7 mN,aMA (by omega)];exact ajD.down (by omega),by rw [vF bK cg cB c0 dr ed eE gS kj,c7 mN,aMA (by omega)];exact Bk (λ x hx=>by rw [aMu.1 hx];exact cH.2 (by have:=Qv.has.km;omega)) (by simp),by rw [vF bK cg cB c0 dr ed eE gS kj,c7 mN,aMA (by omega)];exact gj.same fc aBO⟩
         ·simp only [aMD,aMC] at kj;refine aG<|aa (kP underlying9 Z Z)<|aU Z<| ?_;refine c_ Z (λ rb=> ?_) (λ rb=> ?_)
          ·simp only [aMD,aMC] at rb;refine aG<|hy q5 Z Z ((rD w.heap.size bw _ _ r 0 _ n7 (av.up (by omega)) (by decide)).mono ?_);rintro e aAq (⟨zR,rfl,aBd⟩ | ⟨aHg,aCA,aED,zR,rfl,aDt,Om⟩)
           ·refine .inl ⟨_,Z, ?_⟩;have He:=Ext.mod jV aBd bE;refine dP<|ko<|dP<|f_<| ?_;exact .inl ⟨by rw [Bf bK cg cB c0 dr ed eE gS kj rb,gA zR];exact oN,by rw [Bf bK cg cB c0 dr ed eE gS kj rb,gA zR],by rw [Bf bK cg cB c0 dr ed eE gS kj rb,gA zR];exact gj.same fc He⟩
           refine .inr ⟨_,Z, ?_⟩;have:=Om.size;have He:=Ext.mod jV Om bE;refine aJ<|aN Z<|aa (b1 Z)<|aa (ar q4 Z)<|aa (ar Iz Z)<| ?_;have aX:=aX.mod Om (λ q I=>by have:=I;simp only [aMu] at this;exact ⟨by omega,λ hf=>by have:=(fc.lt q hf).2;omega⟩);refine aa (aA Z (aX.eh.one aZ Z))<|b9 (e:= 3) (cs:= [γ T.W.now]) Z (λ _=>by kernel_rfl) Z λ aLy aD3 VS aHH aiu=> ?_;have:=VS.size;have aBQ:=J He VS;have av:=(av.mod Om (λ q I=>by have:=I;simp only [aMu] at this;omega)).later VS;refine ca xZ Z Z ((yJ _ _ ([T.W.now]) _ _ (aO.zW (R:=bz) (by_:=8) (k:= [T.W.now]) aiu [[γ T.W.now]] Z (⟨⟨Z,fc.W.nums.2.2.2⟩,trivial⟩) (by simp) (by simp)) (λ x hx=>by rw [aMu.1 hx];exact fc.W.nums.2.2.2) (by simp) av (by omega)).mono ?_);rintro e aAs ⟨ahC,alo,rfl,ajE,aBe⟩;refine cK ?_;have Wa:=J aBQ aBe;refine bL Z<|hk<|cW<|c' Z Z<| ?_;exact .inr ⟨by rw [Bf bK cg cB c0 dr ed eE gS kj rb,c7 zR],ahC,alo,by rw [Bf bK cg cB c0 dr ed eE gS kj rb,c7 zR];rfl,by rw [Bf bK cg cB c0 dr ed eE gS kj rb,c7 zR];exact ajE.down (by omega),by rw [Bf bK cg cB c0 dr ed eE gS kj rb,c7 zR];exact Bk (λ x hx=>by rw [aMu.1 hx];exact fc.W.nums.2.2.2) (by simp),by rw [Bf bK cg cB c0 dr ed eE gS kj rb,c7 zR];exact gj.same fc Wa⟩
          ·simp only [aMD,aMC] at rb;refine gb<|cm<|br<|rg<|aa (v:= .agg #[γ 10]) (ht Z)<|aa (Gz (λ w=>by kernel_rfl) Z)<|ae3 Z<|f_<| ?_;exact .inl ⟨by rw [Ro bK cg cB c0 dr ed eE gS kj rb];exact oN,by rw [Ro bK cg cB c0 dr ed eE gS kj rb];rfl,by rw [Ro bK cg cB c0 dr ed eE gS kj rb];exact gj.same fc jV⟩
end
section
variable {f:FuncId} {x:Int} {aM b' w3:World} {b:Nat} {h:gM} {qV:b5} {ws:List ByteArray}
open Go.RowKit Go.Proofs.YthlpmldmhakhaaaGreatDoor.qM
theorem aiD:Fd prog 66 0 0:=λ _ _ _=>by kernel_rfl
theorem aiB:eB prog 64 false:=λ _=>by kernel_rfl
theorem Xc:eN prog 9 1:=λ _=>by kernel_rfl
def zJ (e:Int):ByteArray:=aD [101,114,114,111,114,32]++yq e
theorem ame (p:Addr) (w:World):
  CallsD prog 30 #[.pointer (some p)] .returning w λ e Kz w'=>e= .returned (.tuple #[])∧Kz= .returning∧Ext w w':=by
 refine callsD_of_wpS func30 Z λ Yx cs hu=> ?_;have TA:∀ w,(Instr.typeAssert .nilIface 20 66 true).run prog w= .ok (.tuple #[.agg #[γ 0], .bool false]) w:=λ _=>by kernel_rfl
 apply wpS_seq;apply aQC;simp [wpOpsS,go_sem,recoverD,hu,TA,ntmps30,Exit.thenS];apply wpS_seq;apply aQC;simp [wpOpsS,go_sem,Exit.thenS];refine wpS_cond (t:=false) (by simp [Act.eval,Array.replicate]) ?_;simp only [aNR,aNm];refine wpS_of_wp (wp_skip ?_);cases Yx
 simp_all [bodyPostS,results,results30,Exit.thenS]
 exact (aNb _ w).alloc (aMO _) _
theorem amf (p:Nat) (e:Int) (w:World) (he:dz e) (av:lv w) (hp:aO w p [.string .empty] 9 (0,0)):
  CallsD prog 30 #[.pointer (a_ p)] (.panicking (nR e)) w λ r Kz w'=>r= .returned (.tuple #[])∧Kz= .panicking [{v:= .iface 66 (.agg #[γ e]),recovered:=true}]∧aO w' p [.string (zJ e)] 9 (0,0)∧Mod [p] w w':=by
 refine callsD_of_wpS func30 Z λ Yx cs hu=> ?_;have TA:∀ w,(Instr.typeAssert (.iface 66 (.agg #[γ e])) 20 66 true).run prog w= .ok (.tuple #[.agg #[γ e], .bool true]) w:=λ _=>by kernel_rfl
 apply wpS_seq;apply aQC;simp [wpOpsS,go_sem,recoverD,hu,TA,nR,ntmps30,Exit.thenS];apply wpS_seq;apply aQC;simp [wpOpsS,go_sem,Exit.thenS];refine wpS_cond (t:=true) (by simp [Act.eval,Array.replicate]) ?_;simp only [aN5];refine wpS_of_wp ?_;have fj:Ext w (w.alloc (.cells #[γ e] 66)):=(aNb _ w).alloc (aMO _) _;have xx:aO (w.alloc (.cells #[γ e] 66)) w.heap.size [γ e] 66 (0,0):=aO.new w _ _ (0,0);have hp:=hp.later fj;refine (rg (n:=13) (E:= [(0, .pointer (a_ p)),(1, .pointer (some ⟨w.heap.size,0,none⟩))]) ?_) _ ⟨Z,by simp,λ t v h=> ?_⟩
 ·refine aa (ar aiD Z)<|bA Z xx aiB Z<|ca (b6 func31 (by kernel_rfl) (by kernel_rfl)) Z Z ((ab6 e _ he (av.keep fj)).mono ?_);rintro r b' ⟨rfl,fQ⟩;refine ⟨_,Z, ?_⟩;have hp:=hp.later fQ;refine aa (v:= .string (zJ e)) (Eb (a:=aD [101,114,114,111,114,32]) Z Z (by have:=JH he;rw [pV];simp only [aMw,aMz];omega))<|st (new:= [.string (zJ e)]) Z Z hp Z Xc Z Z Z λ w3 m3 np=> ?_;refine nl λ a ha=> ?_;refine ⟨ha.d, .panicking [{v:= .iface 66 (.agg #[γ e]),recovered:=true}],Z, .tuple #[], ?_,Z,Z,np,(Mod.aP (J fj fQ)).trans m3⟩;simp [results,results30]
 ·match t,h with
  | 0,h | 1,h=>cases h;simp
  | t+2,h=>cases h
def o5 (ds:List Deferred) (a:Act):Act:= {a with defers:=a.defers++ds}
section
variable {P:Program} {ops:Array Oper} {Q:Exit→Act→World→Prop} {ds:List Deferred}
theorem E0 (a:Act) (d:Option Nat) (v:Value):(o5 ds a).put d v=o5 ds (a.put d v):=by cases d<;>rfl
theorem Et:∀ (l:List Oper) (a:Act) (w:World),wpList P ops (λ e a w=>Q e (o5 ds a) w) l a w→wpList P ops Q l (o5 ds a) w
 | [],a,w,h=>h
 | o::r,a,w,h=>by
  unfold wpList at h ⊢;have aR:yielded ops (o5 ds a).tmps=yielded ops a.tmps:=rfl;have a6:(o5 ds a).eval=a.eval:=rfl;rw [aR];by_cases hw:Region.wanted o (yielded ops a.tmps)=true
  ·rw [aMI hw] at h ⊢;rcases h with h | ⟨κ,a',w',τ⟩
   ·left;unfold Oper.wp at *
    rw [a6];generalize (execOp a.eval o).run P w=q at *
    cases q with
    | ok v w' =>
     cases v with
     | value v=>show wpList P ops Q r ((o5 ds a).put o.dst v) w';rw [E0];exact Et r _ _ h
     | skip=>show wpList P ops Q r ((o5 ds a).put o.dst undef) w';rw [E0];exact Et r _ _ h
     | defer d=>show wpList P ops Q r (({o5 ds a with defers:=d::(o5 ds a).defers}:Act).put o.dst undef) w';rw [show ({o5 ds a with defers:=d::(o5 ds a).defers}:Act)=o5 ds {a with defers:=d::a.defers} from rfl,E0];exact Et r _ _ h
     | enter f args =>
      refine aOs (show Calls P f args w' _ from h) λ e kp h=> ?_;cases e with
      | returned v=>show wpList P ops Q r ((o5 ds a).put o.dst v) kp;rw [E0];exact Et r _ _ h
      | panicked c=>exact h
      | outgrown=>obtain ⟨cV,aM,h⟩:=h;exact ⟨_,_,h⟩
     | row q args=>exact Rows.mono (show Rows P q args w' _ from h) λ v kp h=>by rw [E0];exact Et r _ _ h
     | _=>exact h
    | halt s w'=>cases s<;>exact h
   ·exact .inr ⟨κ,_,_,τ⟩
  ·rw [aMA hw] at h ⊢;rw [E0];exact Et r _ _ h
end
section
variable {P:Program} {n:Nat} {E:List (Nat×Value)} {w:World} {Q:Exit→Act→World→Prop} {ops:Array Oper}
theorem amc {fn:Func} {c:Code} {l:List Value} {R:Ending→World→Prop} (hf:P.funcs[f]? =some fn) (af:fn.body=some c) (hn:fn.ntmps=n) (ay:Nat.ble l.length n=true)
  (h:W P n c (bodyPostD P fn R) (zq 0 l) w):Calls P f l.toArray w R:=by
 refine calls_of_wp_defers hf af (h _ ⟨Z, ?_,λ t v hv=> ?_⟩)
 ·have:=aNZ ay;simp only [aPh,aN2,hn,aNV];omega
 ·obtain ⟨j,e,aw⟩:=L' l 0 t v hv;have bB:=(aMx.1 aw).1;rw [aO9 (by simp;omega)];simpa [show t=j by omega] using aw
theorem am2 {x:Operand} {zy:Array Value} {ty:TypeId} {pos:String} {aW:Array Edge} (hx:ev E x=some (.func (.func f) #[] zy)) (h:∀ a,c8 n E a→Q .normal (o5 [{target:= .fn (.func f) zy,args:=#[]}] a) w):
  bO P n ops Q [⟨none, .defer {callee:= .value x,args:=#[],argTypes:=#[]},ty,pos,aW,none⟩] E w:=λ a ha=>by
 refine xL Z ?_;unfold Oper.wp;have e:(execOp a.eval ⟨none, .defer {callee:= .value x,args:=#[],argTypes:=#[]},ty,pos,aW,none⟩).run P w= .ok (.defer {target:= .fn (.func f) zy,args:=#[]}) w:=by
  simp only [execOp,resolve,ha.ev hx];simp [Deferred.ofValue]
 rw [e];have:=h a ha;unfold o5 at this;rw [ha.d] at this;show Q .normal (({a with defers:=_::a.defers}:Act).put none undef) w;rw [ha.d];exact this
end
section
variable {p:Nat} {s:ByteArray} {a:Act} {w:World} {R:Ending→World→Prop}
theorem Xb:eB prog 9 false:=λ _=>by kernel_rfl
theorem auj (bb:a.tmps[4]? =some (.pointer (a_ p))) (B:aO w p [.string s] 9 (0,0)) (hR:∀ w',Ext w w'→R (.returned (.string s)) w'):
  Leaves prog f20 a.tmps R [{target:= .fn (.func 30) #[.pointer (a_ p)],args:=#[]}] .returning w:=by
 refine leaves_cons (f:= 30) (args:=#[.pointer (a_ p)]) (by simp) (by simp [go_sem]) ?_;refine (ame ⟨p,0,none⟩ w).mono ?_;rintro e Kz kp ⟨rfl,rfl,x⟩;have ay:(loadVar 9 ⟨p,0,none⟩).run prog kp= .ok (.string s) kp:=(B.later x).one Xb rfl;exact ⟨.string s,by simp [results,results20,bb,asAddr,ay],hR _ x⟩
theorem aui {e:Int} (bb:a.tmps[4]? =some (.pointer (a_ p))) (B:aO w p [.string .empty] 9 (0,0)) (he:dz e) (av:lv w) (hR:∀ w',Mod [p] w w'→R (.returned (.string (zJ e))) w'):
  Leaves prog f20 a.tmps R [{target:= .fn (.func 30) #[.pointer (a_ p)],args:=#[]}] (.panicking (nR e)) w:=by
 refine leaves_cons (f:= 30) (args:=#[.pointer (a_ p)]) (by simp) (by simp [go_sem]) ?_;refine (amf p e w he av B).mono ?_;rintro r Kz kp ⟨rfl,rfl,l1,m⟩;have ay:(loadVar 9 ⟨p,0,none⟩).run prog kp= .ok (.string (zJ e)) kp:=l1.one Xb rfl;exact ⟨.string (zJ e),by simp [results,results20,bb,asAddr,ay],hR _ m⟩
end
def jW (x:Int):Prop:=0≤x∧x≤10
theorem jW.ok (h:jW x):dz x:=cH.2 ⟨by unfold jW at h;omega,by unfold jW at h;omega⟩
theorem l7 {p:Prop} [Decidable p] {y:Int} (κ:jW x) (τ:jW y):jW (if p then x else y):=by split<;>assumption
theorem gF (h:decide (0≤x∧x≤10)=true):jW x:=(aNt h:0≤x∧x≤10)
theorem Zh (f:au):jW f.a7:=by rcases f.amw with h | h | h<;>rw [h]<;>exact gF rfl
theorem Rp (W:ae):jW W.a7:=by unfold ae.a7;exact l7 (Zh _) (l7 (gF Z) (l7 (gF Z) (gF Z)))
theorem Ze (f:au) (c:ai):jW (f.cG c):=by unfold au.cG;exact l7 (Zh _) (l7 (gF Z) (gF Z))
theorem Zi (o:bC):jW o.a7:=by unfold bC.a7;exact l7 (gF Z) (l7 (gF Z) (gF Z))
theorem anz (l:List bC):jW (nO l):=by
 unfold nO;refine l7 (gF Z) ?_;split
 ·exact Zi _
 ·exact gF Z
theorem anA (W:ae) (l:List bC):jW (jb W l):=by
 have h:jW (lQ W l):=by unfold lQ;exact l7 (anz _) (Rp _)
 unfold jb;exact l7 h (l7 (gF Z) (gF Z))
theorem anx (f:au) (a b:ai):jW (eH f a b):=by unfold eH;exact l7 (Ze _ _) (l7 (Ze _ _) (l7 (gF Z) (l7 (gF Z) (gF Z))))
theorem mK {p:Prop} [Decidable p] {x y:pS} (κ:jW x.e) (τ:jW y.e):jW (if p then x else y).e:=by split<;>assumption
theorem zG {T:b5} {n:Nat} {r:List ByteArray} {f:List Int→pS} (h:∀ l,jW (f l).e):jW (kq T n r f).e:=by
 unfold kq;split
 ·exact gF Z
 ·exact h _
theorem Zf (T:b5) (V:ae) (o:List ByteArray):jW (T.CU V o).e:=by unfold b5.CU;exact mK (Rp _) (gF Z)
theorem Zg (T:b5) (ws:List ByteArray):jW (T.done ws).e:=by
 unfold b5.done;split
 ·exact gF Z
 ·rename_i s r
  refine mK ?_ (mK (zG λ l=> ?_) (mK (zG λ l=> ?_) (mK (zG λ l=> ?_) (mK (zG λ l=> ?_) (mK (zG λ l=> ?_) (mK (zG λ l=> ?_) (mK (zG λ l=> ?_) (mK (zG λ l=> ?_) (mK (zG λ l=> ?_) (gF Z))))))))))
  ·split
   ·refine mK ?_ (gF Z);show jW (po _);unfold po;exact l7 (gF Z) (gF Z)
   ·exact gF Z
  ·exact Zf _ _ _
  ·unfold b5.yK;refine mK ?_ (Zf _ _ _);show jW (qf _);unfold qf;exact l7 (gF Z) (l7 (gF Z) (gF Z))
  ·unfold b5.wait;exact mK (Zi _) (mK (gF Z) (gF Z))
  ·unfold b5.B9;exact mK (anA _ _) (gF Z)
  ·exact gF Z
  ·exact mK (gF Z) (gF Z)
  ·unfold b5.way;exact mK (anx _ _ _) (gF Z)
  ·refine mK ?_ (gF Z);show jW (kn _ _);unfold kn;exact l7 (Rp _) (l7 (gF Z) (gF Z))
  ·exact gF Z
theorem gj.cell {w:World} {p:Nat} (k:gj aM b' b h qV) (x:Ext w aM) (hp:w.heap.size≤p) (NS:p<aM.heap.size) (af:b<w.heap.size) (hf:∀ q∈h.cA,q<w.heap.size) (m:Mod [p] b' w3):gj w w3 b h qV:=by
 obtain ⟨cp,dt,ey,ju⟩:=k;refine ⟨cp,dt.mod m λ q I=> ?_,λ q I=>(ey q I).imp id λ j=>aMR x.size j,((Mod.aP x).trans ju).md m λ q I=> .inr (by rw [aMu.1 I];exact hp)⟩;rw [aMu.1 I];exact ⟨by omega,λ hm=>(ey p hm).elim (λ j=>by have:=hf p j;omega) λ j=>by omega⟩
theorem gj.amg {w:World} {p mX:Nat} (k:gj aM b' b h qV) (x:Ext w aM) (hp:w.heap.size≤p) (NS:p<aM.heap.size) (abI:w.heap.size≤mX) (asj:mX<aM.heap.size) (af:b<w.heap.size) (hf:∀ q∈h.cA,q<w.heap.size) (m:Mod [mX,p] b' w3):gj w w3 b h qV:=by
 obtain ⟨cp,dt,ey,ju⟩:=k;have Gg:∀ q∈ [mX,p],w.heap.size≤q∧q<aM.heap.size:=λ q I=>by
  rcases aMN.1 I with rfl | I
  ·exact ⟨abI,asj⟩
  ·rw [aMu.1 I];exact ⟨hp,NS⟩
 refine ⟨cp,dt.mod m λ q I=> ?_,λ q I=>(ey q I).imp id λ j=>aMR x.size j,((Mod.aP x).trans ju).md m λ q I=> .inr (Gg q I).1⟩;have:=Gg q I;exact ⟨by omega,λ hm=>(ey q hm).elim (λ j=>by have:=hf q j;omega) λ j=>by omega⟩
theorem aiE:kO prog 9 (.string .empty):=λ _=>by kernel_rfl
theorem aiC:dL prog eU 26 9 16:=dL.jw (z:= .string .empty) (k:=1) underlying26 DC rfl rfl (by decide) (λ j u h=>D9 j u h)
def wQ:ByteArray:=aD [111,107]
theorem adT {T:b5} (h:(T.done ws).e=0):(T.line ws).1=mb (wQ::(T.done ws).out) (aD [32]):=by unfold b5.line L5;exact aMA (by omega)
theorem adS {T:b5} (h:(T.done ws).e≠0):(T.line ws).1=zJ (T.done ws).e:=by unfold b5.line L5;exact aMI h
theorem ao3 (T:b5) (ws:List ByteArray):(zJ (T.done ws).e).size≤2100000:=by
 have:=JH (Zg T ws).ok;unfold zJ;rw [aOa,pV];simp only [aMw,aMz];omega
theorem auC (b az:Nat) (h:gM) (T:b5) (A:Option Addr) (c:Nat) (ws:List ByteArray) (w:World) (aX:gN w b h T) (tz:eU.aQ 16 w A c ws) (bB:∀ q∈Φ.ab A,q<w.heap.size) (hE:∀ x∈ws,x.size≤1048576) (av:fL az w) (sx:az≤b):
  Calls prog 20 #[.pointer (a_ b), .slice A ws.length c] w λ e w'=>e= .returned (.string (T.line ws).1)∧(T.line ws).1.size≤2100000∧gj w w' b h (T.line ws).2:=by
 have tZ:=aX.B.lt;have OP:=bY aX.lt;refine amc (n:=12) func20 Z Z Z ?_;refine aG<|dj aiE Z λ aM p fj dO xx=> ?_;have aKw:=xx.lt;refine aJ<|aG<|aa (J_ Z Z)<|am2 Z λ a ha=> ?_;refine wp_seq (wp_region_lit (Et _ a _ ?_));have bb:∀ {a:Act} {E:List (Nat×Value)},c8 12 E a→look E 4=some (.pointer (a_ p))→a.tmps[4]? =some (.pointer (a_ p)):=λ ha he=>ha.g _ _ he;refine (?_:bO prog 12 _ _ _ _ _) a ha;refine b9 (e:= 9) (cs:= [.string wQ]) Z (λ _=>by kernel_rfl) Z λ b' e_ fQ iJ l1=> ?_;have:=fQ.size;have axH:=l1.lt;have aqg:=(aX.later fj).later fQ;have KW:=J fj fQ;refine vm Z<|vm Z<| ?_;refine hy (b6 func32 (by kernel_rfl) (by kernel_rfl)) Z Z ((anb b az h T A c ws b' aqg (tz.keep KW) (λ q I=>by have:=bB q I;omega) hE (av.later KW) sx).mono ?_);have hp:p∉b::h.cA:=λ hm=>by
  rcases aMN.1 hm with hm | hm
  ·omega
  ·have:=OP p hm;omega
 have bq:e_∉b::h.cA:=λ hm=>by
  rcases aMN.1 hm with hm | hm
  ·omega
  ·have:=OP e_ hm;omega
 rintro e w3 (⟨he,rfl,hR⟩ | ⟨he,rT,c3,rfl,ajv,Xf,hR⟩)
 ·left;refine ⟨_,Z,λ a ha=> ?_⟩;have St:=hR;obtain ⟨cp,dt,ey,ju⟩:=hR;have np:=(xx.later fQ).mod ju hp;have ap9:lv w3:=((av.later KW).mod ju λ q I=>by
   rcases aMN.1 I with I | I
   ·omega
   ·have:=(aX.lt q I).1;omega).eb
  show Leaves _ _ a.tmps _ (a.defers++_) _ _;rw [ha.d];refine aui (bb ha Z) np (Zg T ws).ok ap9 λ nU m4=>⟨by rw [adS he],(by rw [adS he];exact ao3 _ _),St.cell KW dO (by omega) tZ OP m4⟩
 ·right;refine ⟨_,Z, ?_⟩;have St:=hR;obtain ⟨cp,dt,ey,ju⟩:=hR;have:=ju.size;have pR:=aO.Kg (R:=eU) (by_:=16) (B:=w.heap.size) (k:= [wQ]) (l1.mod ju bq) [[.string wQ]] rfl ⟨⟨rfl,(by decide)⟩,trivial⟩ (by simp) (by simp) (by decide) (by omega) ax9;have hn:=Xf.1;refine ap aiC px pR ajv.has Z Z (by simp only [aMw,aMz];omega) (by simp only [aMw,aMz];omega) (by omega) Z λ nU aCE c4 m4 ajw g4 qv=> ?_;have jq:(mb (wQ::(T.done ws).out) (aD [32])).size≤2100000:=by
   have:=TQ (c:=200) (s:=aD [32]) (l:=wQ::(T.done ws).out) λ x hx=>by
    rcases aMN.1 hx with rfl | hx
    ·decide
    ·exact Xf.2 x hx
   have aR:(aD [32]).size=1:=rfl;rw [aR,aMw] at this;omega
  have aw:(mb (wQ::(T.done ws).out) (aD [32])).size≤140737488355328:=by omega
  refine ca (b6 func11 (by kernel_rfl) (by kernel_rfl)) Z Z ((Rk (l:=wQ::(T.done ws).out) (aD [32]) ajw.has aw).mono ?_);rintro e qC ⟨rfl,j'⟩;refine cK ?_;have asl:p∉ [e_]:=λ hm=>by rw [aMu] at hm;omega
  have y5:=(((xx.later fQ).mod ju hp).mod m4 asl).later j';refine st (new:= [.string (mb (wQ::(T.done ws).out) (aD [32]))]) Z Z y5 Z Xc Z Z Z λ KI m6 l2=> ?_;refine nl λ a ha=> ?_;refine wp_ret ?_;show Leaves _ _ a.tmps _ (a.defers++_) _ _;rw [ha.d];have Ga:∀ {wZ},Ext KI wZ→Mod [e_,p] w3 wZ:=λ aA2 =>
   (((m4.sub (S':= [e_,p]) λ q I=>by rw [aMu.1 I];simp).trans (Mod.aP j')).trans (m6.sub λ q I=>by rw [aMu.1 I];simp)).trans (Mod.aP aA2)
  refine auj (bb ha Z) l2 λ B' jz=>⟨by rw [adT he],(by rw [adT he];exact jq), ?_⟩;exact St.amg KW dO (by omega) (by omega) axH tZ OP (Ga jz)
end
end Go.Proofs.YthlpmldmhakhaaaGreatDoor
namespace Go.Proofs.YthlpmldmhakhaaaGreatDoor.Pack
open Tryz
open Go.RowKit Go.Proofs.YthlpmldmhakhaaaGreatDoor

theorem afX:(prog.info? 32).map (·.size)=some 2:=by kernel_rfl
theorem auw:liesAt prog prog.depth 32 (2 / prog.cellsOf 32) 0 32 1=true:=by kernel_rfl
theorem infoByte:(prog.info? 5).map (fun i=>(i.zero,i.size,i.bytes))=some (some (.int .u8 0),1,1):=by kernel_rfl
theorem amt (b:Nat) (w:World) (aB:w.cell? ⟨b,0,none⟩=some (.pointer (some ⟨b,0,none⟩))):
  Calls prog 21 #[.pointer (some ⟨b,0,none⟩)] w fun e w'=>e= .returned (.tuple #[])∧w'=w:=by
 obtain ⟨j,aw,_⟩:=aOl.1 afX;go_enter func21,ntmps21;go_wp2
 rw [Lib.run_neq_ptr_same w _ underlying29 aw];go_wp2
 go_end0
 exact ⟨Z,Z⟩
theorem ams (b:Nat) (w:World) (aB:w.cell? ⟨b,0,none⟩=some (.pointer none)) (BG:w.shape? b=some (32,2)) (ari:w.frozen? ⟨b,0,none⟩=false):
  Calls prog 21 #[.pointer (some ⟨b,0,none⟩)] w fun e w'=>e= .returned (.tuple #[])∧w'=w.setCell ⟨b,0,none⟩ (.pointer (some ⟨b,0,none⟩)):=by
 obtain ⟨j,aw,arA⟩:=aOl.1 afX;go_enter func21,ntmps21;go_wp2
 rw [Lib.run_to_unsafe w ⟨b,0,none⟩ underlying29 underlying70 aw (by rw [arA];decide) BG (Nat.zero_lt_succ 1)];simp only [Result.andThen];rw [aQv];go_wp2
 rw [run_callFunc_extern func33 (by kernel_rfl) (by kernel_rfl) (by kernel_rfl) (e:=Extern.AbiNoEscape.same) (by kernel_rfl)];rw [Lib.run_noEscape];simp only [Result.andThen];rw [aQv];go_wp2
 rw [Lib.run_from_unsafe w ⟨b,0,none⟩ underlying70 underlying29 aw BG auw];simp only [Result.andThen];rw [aQv];go_wp2
 go_end0
 exact ⟨Z,Z⟩
end Go.Proofs.YthlpmldmhakhaaaGreatDoor.Pack
namespace Go.Proofs.YthlpmldmhakhaaaGreatDoor
open Tryz
section
variable {w w':World} {q b c:Nat} {e:TypeId} {h:gM} {v:Value} {S:List Nat}
open Go.RowKit Go.Proofs.YthlpmldmhakhaaaGreatDoor.Pack
def r3 (w:World) (q:Nat) (e:TypeId):Prop:=∃ cur ao,w.heap[q]? =some (.cells cur e ao)
theorem r3.ne {p:Nat} {f:TypeId} (h:r3 w q e) (k:r3 w p f) (hn:Nat.beq e f=false):q≠p:=λ I=>by
 subst I;obtain ⟨c,ao,h⟩:=h;obtain ⟨cn,yb,k⟩:=k;rw [h] at k;injection k with k;injection k with _ k _
 exact aPm hn k
theorem aO.of {cs:List Value} {ao:Nat×Nat} (h:aO w b cs e ao):r3 w b e:=⟨_,_,h⟩
theorem D5 {α:Type} {R:Φ α} {e by_ B:Nat} {A:Option Addr} {l:List α} (h:R.aL e by_ w B (Φ.ab A) A c l):∀ q∈Φ.ab A,r3 w q e:=by
 obtain ⟨_,ps,_,_,⟨_,bl⟩,_⟩:=h;rcases bl with ⟨κ,_⟩ | ⟨g,cap,cur,κ,_,τ,_⟩
 ·injection κ with κ;subst κ;intro q I;exact nomatch I
 ·injection κ with κ;subst κ;intro q I
  obtain rfl:=aMu.1 I;exact ⟨_,_,τ⟩
def P1 (e:TypeId):Prop:=Nat.beq 55 e=false∧Nat.beq 3 e=false∧Nat.beq 98 e=false∧Nat.beq 108 e=false∧Nat.beq 110 e=false
theorem XN:P1 5 :=⟨rfl,rfl,rfl,rfl,rfl⟩
theorem XM:P1 32 :=⟨rfl,rfl,rfl,rfl,rfl⟩
theorem gN.L_ {T:b5} (k:gN w b h T) (he:P1 e) (I:r3 w q e):q≠b∧q∉h.cA:=by
 obtain ⟨κ,τ,aq,bb,bT⟩:=he;refine ⟨λ e=>(k.B.of.ne I κ) e.symm,λ hm=> ?_⟩;rcases gM.mem.1 hm with hm | hm
 ·unfold bt.cA at hm;simp only [aMQ] at hm;rcases hm with (((hm | hm) | hm) | hm) | hm
  ·exact (D5 k.W.P q hm).ne I τ Z
  ·exact (D5 k.W.B q hm).ne I aq Z
  ·exact (D5 k.W.S q hm).ne I τ Z
  ·exact (D5 k.W.M q hm).ne I τ Z
  ·exact (D5 k.W.T q hm).ne I bb Z
 ·exact (D5 k.L q hm).ne I bT Z
def iD (w:World) (b:Nat) (b9:List Value):Prop:=Lib.IsBuilder 32 5 b b b9 w
theorem iD.parts {b9:List Value} (h:iD w b b9):∃ p v,w.heap[b]? =some (.cells #[p,v] 32 (0,0))∧(p= .pointer none∨p= .pointer (some ⟨b,0,none⟩))∧w.ownsRow b 5 1 v b9.length b9∧v.ownBlock≠some b:=by
 rcases h with ⟨_,v,κ,τ,aq⟩ | ⟨_,v,κ,τ,aq⟩
 ·exact ⟨_,v,κ, .inl Z,τ,aq⟩
 ·exact ⟨_,v,κ, .inr Z,τ,aq⟩
theorem iD.mk {b9:List Value} {p:Value} (κ:w.heap[b]? =some (.cells #[p,v] 32 (0,0))) (hp:p= .pointer none∨p= .pointer (some ⟨b,0,none⟩)) (τ:w.ownsRow b 5 1 v b9.length b9) (aq:v.ownBlock≠some b):iD w b b9:=by
 rcases hp with rfl | rfl
 ·exact .inl ⟨aMO _,v,κ,τ,aq⟩
 ·exact .inr ⟨aMO _,v,κ,τ,aq⟩
theorem iD.lt {b9:List Value} (h:iD w b b9):b<w.heap.size:=by
 obtain ⟨p,v,κ,_⟩:=h.parts;exact (aM1.1 κ).1
theorem iD.of {b9:List Value} (h:iD w b b9):r3 w b 32 :=by
 obtain ⟨p,v,κ,_⟩:=h.parts;exact ⟨_,_,κ⟩
theorem aye {n:Nat} {xs:List Value} (h:w.ownsRow b e 1 v n xs) (I:v.ownBlock=some q):b≤q∧r3 w q e:=by
 rcases h.2 with ⟨rfl,_⟩ | ⟨g,cap,cur,rfl,af,aT,_⟩
 ·cases I
 ·injection I with I
  subst I;exact ⟨af,_,_,aT⟩
theorem iD.avP {b9:List Value} (h:iD w b b9) (m:Mod S w w') (af:b∉S) (hS:∀ q∈S,¬ r3 w q 5):iD w' b b9:=by
 obtain ⟨p,v,κ,hp,τ,aq⟩:=h.parts;refine iD.mk (by rw [m.block b h.lt af];exact κ) hp ⟨τ.1,τ.2.imp id ?_⟩ aq;rintro ⟨g,cap,cur,rfl,aT,hc,r⟩;refine ⟨g,cap,cur,Z,aT, ?_,r⟩;rw [m.block g (aM1.1 hc).1 λ hm=>hS g hm ⟨_,_,hc⟩];exact hc
theorem iD.mod {b9:List Value} (h:iD w b b9) (m:Mod S w w') (hS:∀ q∈S,q≠b∧¬ r3 w q 5):iD w' b b9:=h.avP m (λ af=>(hS b af).1 rfl) λ q I=>(hS q I).2
theorem iD.later {b9:List Value} (h:iD w b b9) (x:Ext w w'):iD w' b b9:=h.mod (Mod.aP (S:= []) x) λ q I=>nomatch I
theorem gN.akZ {T:b5} {b9:List Value} (t:gN w c h T) (k:iD w b b9):∀ q∈c::h.cA,q≠b∧¬ r3 w q 5 :=λ q I=>by
 have κ:=t.L_ XM k.of;refine ⟨λ e=> ?_,λ bl=> ?_⟩
 ·subst e;exact (aMN.1 I).elim κ.1 κ.2
 ·have τ:=t.L_ XN bl;exact (aMN.1 I).elim τ.1 τ.2
theorem gN.atr {T:b5} {b9:List Value} {K:List Nat} (t:gN w c h T) (k:iD w b b9) (hK:∀ q∈K,b≤q∧(w.heap.size≤q∨r3 w q 5)):∀ q∈b::K,q≠c∧q∉h.cA:=λ q I=>by
 rcases aMN.1 I with rfl | I
 ·exact t.L_ XM k.of
 ·rcases (hK q I).2 with j | j
  ·exact ⟨by have:=t.B.lt;omega,λ hm=>by have:=(t.lt q hm).2;omega⟩
  ·exact t.L_ XN j
theorem iD.new (h:aO w b [.pointer none, .slice none 0 0] 32 (0,0)):iD w b [] :=
 iD.mk h (.inl rfl) ⟨rfl, .inl ⟨rfl,rfl⟩⟩ (by simp [Value.ownBlock])
def ajn (b:Nat) (w w':World):Prop:=∃ K:List Nat,Mod (b::K) w w'∧∀ q∈K,b≤q∧(w.heap.size≤q∨r3 w q 5)
theorem amr (b:Nat) (b9:List Value) (w:World) (h:iD w b b9):
  Calls prog 21 #[.pointer (some ⟨b,0,none⟩)] w λ e w'=>e= .returned (.tuple #[])∧Lib.BuilderAt 32 5 b b (.pointer (some ⟨b,0,none⟩)) b9 w'∧Mod [b] w w'∧w'.heap.size=w.heap.size:=by
 rcases h with h | h
 ·refine (ams b w h.cell0 h.shape h.frozen0).mono ?_;rintro e w' ⟨rfl,rfl⟩;exact ⟨Z,h.used _,Mod.setCell w ⟨b,0,none⟩ _,by simp [World.setCell]⟩
 ·refine (amt b w h.cell0).mono ?_;rintro e w' ⟨rfl,rfl⟩;exact ⟨Z,h,Mod.bM _ _,Z⟩
theorem ala (b:Nat) (b9:List Value) (s:ByteArray) (w:World) (h:iD w b b9) (hlen:b9.length+s.size≤140737488355328):
  Calls prog 10 #[.pointer (some ⟨b,0,none⟩), .string s] w λ e w'=>e= .returned (.tuple #[.int .i64 s.size, .nilIface])∧iD w' b (b9++Lib.strCells s)∧ajn b w w':=by
 obtain ⟨i0,ak,BI,Dz,DA⟩:=aP7 infoByte;have aGb:=h.lt;go_enter func10,ntmps10;go_wp2_with fail
 refine (amr b b9 _ h).mono ?_;rintro e aM ⟨rfl,κ,dM,gm⟩;obtain ⟨aS,v,NB,js,dD⟩:=κ;have bd:aM.cell? ⟨b,1,none⟩=some v:=by rw [Lib.cell_of_heap NB];rfl
 go_wp2_with (at_builtin;refine Lib.wpList_append_own_string _ rfl _ _ 30 9 rfl b 5 i0 underlying30 underlying9 ak BI Dz DA _ _ _ rfl js s rfl ?c3 ?c4 ?c5 ?_)
 case c3=>unfold maxLen;omega
 case c4=>omega
 case c5=>omega
 intro v' b' abG p' _;have bB:b<aM.heap.size:=by omega
 have bq:b'.heap[b]? =some (.cells #[.pointer (some ⟨b,0,none⟩),v] 32 (0,0)):=by
  rw [p'.block b bB (λ e=>dD e.symm)];exact NB
 have d1:b'.cell? ⟨b,1,none⟩=some v:=by rw [Lib.cell_of_heap bq];rfl
 have f1:b'.frozen? ⟨b,1,none⟩=false:=Lib.frozen_of_heap bq 1;obtain ⟨XI,mV,cap,rfl⟩:∃ XI mV cap,v'= .slice XI mV cap:=by
  rcases abG.2 with ⟨hv,_⟩ | ⟨g,cap,cur,hv,_⟩
  ·exact ⟨_,_,_,hv⟩
  ·exact ⟨_,_,_,hv⟩
 go_wp2
 go_ret2
 refine ⟨Z, .inr ?_,v.ownBlock.toList, ?_,λ q I=> ?_⟩
 ·exact Lib.BuilderAt.put (T:= 32) (e:= 5) aS bq (bs':=b9++Lib.strCells s) (by simpa [Lib.strCells_length] using abG) (by decide)
 ·refine ((dM.sub (S':=b::v.ownBlock.toList) λ q I=>by rw [aMu.1 I];exact aM5).trans ((Mod.grown p').sub λ q I=>aMK _ I)).trans ((Mod.setCell _ ⟨b,1,none⟩ _).sub λ q I=> ?_);rw [aMu.1 I];exact aM5
 ·obtain ⟨dt,cur,ao,ey⟩:=aye js (aQ5.1 I);refine ⟨dt, .inr ⟨cur,ao, ?_⟩⟩;have aGy:=(aM1.1 ey).1;rw [← dM.block q (by omega) λ hm=>dD (by rw [← aMu.1 hm];exact aQ5.1 I)];exact ey
end
end Go.Proofs.YthlpmldmhakhaaaGreatDoor
