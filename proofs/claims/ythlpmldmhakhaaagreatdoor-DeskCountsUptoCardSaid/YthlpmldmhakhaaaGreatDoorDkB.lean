import Derived.Test.YthlpmldmhakhaaaGreatDoorDkX
set_option linter.unusedVariables false
set_option linter.unusedSimpArgs false
set_option maxRecDepth 100000
set_option maxHeartbeats 4000000
open Go.RowKit
namespace Go.Proofs.YthlpmldmhakhaaaGreatDoor
open Tryz
abbrev aOF:=@ByteArray.size_append
abbrev aQE:=@Go.run_string_add_sum
abbrev aQ0:=@Go.Oper.upon_value
abbrev aQ7:=@Go.wpS_region
abbrev aRA:=@Option.mem_toList
section
variable {w:World} {A:Option Addr} {c:Nat}
theorem ajo:dN prog e_ 26 9 16:=dN.jz (z:= .string .empty) (k:=1) underlying26 DW rfl rfl (by decide) (λ j u h=>Er j u h)
open Go.Proofs.YthlpmldmhakhaaaGreatDoor.qX
theorem apV {f:av} {a b:ai} (h:eI f a b=0):0≤iA f a b∧iA f a b≤4800∧(cR f a b).length≤4801:=by
 obtain ⟨κ,τ,_,aq,bb,bV⟩:=Ns h;obtain ⟨far,hp⟩:=UU κ τ b;have af:=hp.Yv (c:=b);have ay:=av.kr κ;have hw:=ahG (I4 κ τ aq) aq;rw [bb,bV,aON];exact ⟨aq,by omega,by omega⟩
theorem am2 {l:List ai} (h:ai.rep.aQ 16 w A c l):∀ x∈l.map zO,x.size≤200:=λ x hx=>by
 obtain ⟨t,aD,rfl⟩:=aNn.1 hx;obtain ⟨k,aj,e⟩:=aOO aD;exact aNm (Rq (Zr h (k:=k) (by rw [aM3 aj,e]))) (by decide)
theorem aBj {k:Int} {l:List ai} (aj:dB k) (h:ai.rep.aQ 16 w A c l) (ay:l.length≤4801):q0 (eg [k]++l.map zO):=
 q0.app (BF (λ x hx=>by rw [aMZ.1 hx];exact aj) (by simp)) (am2 h) (by simp only [aM6,aNI,pH,aM1,aM5];omega)
section
variable {T:bP} {l:List Int}
theorem We (h:eI T.W.field ⟨l.getD 0 0,l.getD 1 0⟩ ⟨l.getD 2 0,l.getD 3 0⟩≠0):T.way l=⟨eI T.W.field ⟨l.getD 0 0,l.getD 1 0⟩ ⟨l.getD 2 0,l.getD 3 0⟩, [],T⟩:=aNd h
theorem La (h:eI T.W.field ⟨l.getD 0 0,l.getD 1 0⟩ ⟨l.getD 2 0,l.getD 3 0⟩=0):T.way l=⟨0,eg [iA T.W.field ⟨l.getD 0 0,l.getD 1 0⟩ ⟨l.getD 2 0,l.getD 3 0⟩]++(cR T.W.field ⟨l.getD 0 0,l.getD 1 0⟩ ⟨l.getD 2 0,l.getD 3 0⟩).map zO,T⟩:=aM4 (by omega)
end
theorem aBh (b aA:Nat) (h:gP) (T:bP) (xL:Option Addr) (Bt:Nat) (l:List Int) (w:World) (aX:gQ w b h T) (ay:bz.aQ 8 w xL Bt l) (hn:l.length=4) (ar:fu aA w) (sK:aA≤b):
  Calls prog 52 #[.pointer (a_ b), .slice xL l.length Bt] w (iL w b h T (T.way l)):=by
 have aE:=aX.B;have bO:=aX.W;have b1:=aX.L;have uq:=aE.lt;have gA:=bZ b1.lt;refine cx (n:=58) func52 Z Z Z ?_;refine aF<|aT Z<|aI<| ?_;refine dw [(4,0),(7,0),(10,0),(14,0),(17,0),(19,2)] [0,1,2,3,4,5,6,7,8,9,10,11,12,13,14,15,16,17,18,19,20,21,22,23,24,25,26] ?_;refine bn Z Z<|ax Z (λ _=>b3 Z)<|ax Z (λ _=>au rf Z)<|ax Z (λ _=>au p7 Z)<|cS Z (λ _ x=>aB Z ((aE.later x).par [γ T.W.field.wide,γ T.W.field.high, .slice h.a.P T.W.field.places.length h.a.p] hb gD Z))<|bn Z Z<|ax Z (λ _=>bX 0 underlying46 cr Z Z ((ay.keep (Ext.bN w)).bw (aZ 0)) Z (by omega))<|cS Z (λ _ x=>aB Z (Φ.aQ.dj dA ((ay.keep (J (Ext.bN w) x)).cg (aZ 0)) (cj (l:=l) (u:=0) (j:=0) (by omega)) Z a6))<|bn Z Z<|ax Z (λ _=>bX 1 underlying46 cr Z Z ((ay.keep (Ext.bN w)).bw (aZ 1)) Z (by omega))<|cS Z (λ _ x=>aB Z (Φ.aQ.dj dA ((ay.keep (J (Ext.bN w) x)).cg (aZ 1)) (cj (l:=l) (u:=0) (j:=1) (by omega)) Z a6))<|kn (v:= .agg #[γ (l.getD 0 0),γ (l.getD 1 0)]) Z Z (λ _=>gR Z (by kernel_rfl)) Z<|bn Z Z<|ax Z (λ _=>bX 2 underlying46 cr Z Z ((ay.keep (Ext.bN w)).bw (aZ 2)) Z (by omega))<|cS Z (λ _ x=>aB Z (Φ.aQ.dj dA ((ay.keep (J (Ext.bN w) x)).cg (aZ 2)) (cj (l:=l) (u:=0) (j:=2) (by omega)) Z a6))<|bn Z Z<|ax Z (λ _=>bX 3 underlying46 cr Z Z ((ay.keep (Ext.bN w)).bw (aZ 3)) Z (by omega))<|cS Z (λ _ x=>aB Z (Φ.aQ.dj dA ((ay.keep (J (Ext.bN w) x)).cg (aZ 3)) (cj (l:=l) (u:=0) (j:=3) (by omega)) Z a6))<|kn (v:= .agg #[γ (l.getD 2 0),γ (l.getD 3 0)]) Z Z (λ _=>gR Z (by kernel_rfl)) Z<|fW Z Z Z λ Cv kO Q hK=>ca ZS Z Z ((afw T.W.field (⟨l.getD 0 0,l.getD 1 0⟩:ai) (⟨l.getD 2 0,l.getD 3 0⟩:ai) _ _ _ (aX.W.P.has.keep (J (Ext.bN w) kO))).mono ?_);rintro e PA ⟨CL,dX,rfl,sb,xx⟩;refine ⟨_,Z,hK _ _ ⟨J kO xx, ?_⟩⟩;have:=kO.size;have:=xx.size;have lz:=J kO xx;have VR:=bZ sb.lt;refine bn Z Z<|ax Z (λ _=>ex Z Z)<|ax Z (λ _=>ex Z Z)<|ax Z (λ _=>ex Z Z)<|ax Z (λ _=>eV Z)<|ax Z (λ _=>eV Z)<|ax Z (λ _=>eV Z)<|fn λ y3 ir=> ?_;have:=ir.size;have mJ:=J lz ir;refine br<|aK Z<|hD yk Z Z ((Bz (eI T.W.field (⟨l.getD 0 0,l.getD 1 0⟩:ai) (⟨l.getD 2 0,l.getD 3 0⟩:ai)) _).mono ?_);rintro e y4 (⟨hc,rfl,gw⟩ | ⟨hc,rfl,hy⟩)
 ·refine .inl ⟨_,Z, ?_⟩;have iz:=J mJ gw;refine dR<|gm<| ?_;exact .inl ⟨by rw [We hc];exact hc,by rw [We hc],by rw [We hc];exact gx.same aX (J (J (J (J (Ext.bN w) kO) xx) ir) gw)⟩
 refine .inr ⟨_,Z, ?_⟩;have:=hy.size;have iz:=J mJ hy;obtain ⟨aFH,aFI,apL⟩:=apV hc;refine aJ<|aK Z<|b_ (e:= 3) (cs:= [γ (iA T.W.field (⟨l.getD 0 0,l.getD 1 0⟩:ai) (⟨l.getD 2 0,l.getD 3 0⟩:ai))]) Z (λ _=>by kernel_rfl) Z λ qO Yo iH ad7 xN=> ?_;have:=iH.size;have gU:=J iz iH;have U0:=xN.lt;have ar:=ar.later (J kO (J xx (J ir (J hy iH))));refine ca ym Z Z ((yZ _ _ ([iA T.W.field (⟨l.getD 0 0,l.getD 1 0⟩:ai) (⟨l.getD 2 0,l.getD 3 0⟩:ai)]) _ _ (aO.Ai (R:=bz) (by_:=8) (k:= [iA T.W.field (⟨l.getD 0 0,l.getD 1 0⟩:ai) (⟨l.getD 2 0,l.getD 3 0⟩:ai)]) xN [[γ (iA T.W.field (⟨l.getD 0 0,l.getD 1 0⟩:ai) (⟨l.getD 2 0,l.getD 3 0⟩:ai))]] Z (⟨⟨Z,cI.2 (by omega)⟩,trivial⟩) (by simp) (by simp)) (λ x hx=>by rw [aMZ.1 hx];exact cI.2 (by omega)) (by simp) ar (by omega)).mono ?_);rintro e AR ⟨aim,al7,rfl,X1,pP⟩;refine cF ?_;have mK:=J gU pP;have GJ:=dL X1.lt;refine aT Z<|aI<|aK Z<|aa (dr underlying49 Z)<|vm Z<|aJ<|bT<| ?_;have b1:=b1.later (J kO (J xx (J ir (J hy (J iH pP)))));have ar:=ar.later pP;have sb:=sb.later (J ir (J hy (J iH pP)));refine gi (λ cJ cu aV=>∃ k:Nat,∃ ct:Option Addr,∃ co:Nat,∃ o:List ByteArray,cu= [(4, .slice none 0 0),(8, .slice ct o.length co),(40, .slice CL ((cR T.W.field (⟨l.getD 0 0,l.getD 1 0⟩:ai) (⟨l.getD 2 0,l.getD 3 0⟩:ai)).length) dX),(41,γ ((((cR T.W.field (⟨l.getD 0 0,l.getD 1 0⟩:ai) (⟨l.getD 2 0,l.getD 3 0⟩:ai)).length:Nat):Int))),(42,γ (k:Int))]∧cJ=(cR T.W.field (⟨l.getD 0 0,l.getD 1 0⟩:ai) (⟨l.getD 2 0,l.getD 3 0⟩:ai)).length - k∧Ext w aV∧bC.rep.aM 110 48 aV (b+1) (Φ.ab h.A) h.A h.c (T.L)∧fu aA aV∧ai.rep.aM 98 16 aV Cv.heap.size (Φ.ab CL) CL dX (cR T.W.field (⟨l.getD 0 0,l.getD 1 0⟩:ai) (⟨l.getD 2 0,l.getD 3 0⟩:ai))∧e_.aM 9 16 aV w.heap.size (Φ.ab ct) ct co (o)∧(k≤(cR T.W.field (⟨l.getD 0 0,l.getD 1 0⟩:ai) (⟨l.getD 2 0,l.getD 3 0⟩:ai)).length)∧(o=eg [iA T.W.field (⟨l.getD 0 0,l.getD 1 0⟩:ai) (⟨l.getD 2 0,l.getD 3 0⟩:ai)]++((cR T.W.field (⟨l.getD 0 0,l.getD 1 0⟩:ai) (⟨l.getD 2 0,l.getD 3 0⟩:ai)).take k).map zO)∧(∀ q∈Φ.ab ct,q∈Φ.ab h.A→False)∧(∀ q∈Φ.ab ct,q∈Φ.ab CL→False)) _ _ ⟨0,aim,al7,eg ([iA T.W.field (⟨l.getD 0 0,l.getD 1 0⟩:ai) (⟨l.getD 2 0,l.getD 3 0⟩:ai)]),Z,Z,mK,b1,ar,sb,(X1.down (by omega)),by omega,by simp,(λ q I af=>by (have:=GJ q I;(have:=gA q af;omega))),(λ q I af=>by (have:=GJ q I;(have:=VR q af;omega)))⟩ (eS Z Z Z) ?_;rintro rH XI xr ⟨k,ct,co,o,rfl,rfl,jW,b1,ar,sb,bW,aj,bk,FC,ot⟩;have:=jW.size;have xm:=bZ b1.lt;have ag7:=bZ sb.lt;have Pv:=bZ bW.lt;have Gt:o.length≤10000:=by rw [bk];simp only [aM6,pH,aM1,aM5,aNI,aM9];omega
 refine aF<|fB Z Z<|aJ<|aI<| ?_;refine fH Z (λ Af=> ?_) (λ Af=> ?_)
 ·refine bE<|aI<|bT<|aF<|aa (bX k underlying49 bs Z Z (sb.has.bw (aZ k)) Z (by omega))<|aa (aB Z (Φ.aQ.jJ wh (sb.has.cg (aZ k)) (cj (l:=cR T.W.field (⟨l.getD 0 0,l.getD 1 0⟩:ai) (⟨l.getD 2 0,l.getD 3 0⟩:ai)) (u:=default) (by omega)) b2 bs))<| ?_;have px:=Zr sb.has (cj (l:=cR T.W.field (⟨l.getD 0 0,l.getD 1 0⟩:ai) (⟨l.getD 2 0,l.getD 3 0⟩:ai)) (u:=default) (j:=k) (by omega));refine dn sC Z λ xt q9 r0 auq CN=> ?_;have nx:=J jW r0;have aKJ:=CN.lt;refine c9 Z Z CN Z bs Z Z λ EF gj CN=> ?_;have:=gj.size;have l7:=Ext.mod nx gj bF;refine aJ<|rg<|vm Z<|aa (au hE Z)<|bA Z CN a6 Z<|aa (au hG Z)<|bA Z CN a6 Z<|b_ (e:= 3) (cs:= [γ (((cR T.W.field (⟨l.getD 0 0,l.getD 1 0⟩:ai) (⟨l.getD 2 0,l.getD 3 0⟩:ai)).getD k default).x),γ (((cR T.W.field (⟨l.getD 0 0,l.getD 1 0⟩:ai) (⟨l.getD 2 0,l.getD 3 0⟩:ai)).getD k default).y)]) Z (λ _=>by kernel_rfl) Z λ V7 aER fq aIw Xv=> ?_;have:=fq.size;have A8:=J l7 fq;have aKK:=Xv.lt;have ar:=((ar.later r0).mod gj (λ q I=>by have:=I;simp only [aMZ] at this;omega)).later fq;refine ca ym Z Z ((yZ _ _ ([((cR T.W.field (⟨l.getD 0 0,l.getD 1 0⟩:ai) (⟨l.getD 2 0,l.getD 3 0⟩:ai)).getD k default).x,((cR T.W.field (⟨l.getD 0 0,l.getD 1 0⟩:ai) (⟨l.getD 2 0,l.getD 3 0⟩:ai)).getD k default).y]) _ _ (aO.Ai (R:=bz) (by_:=8) (k:= [((cR T.W.field (⟨l.getD 0 0,l.getD 1 0⟩:ai) (⟨l.getD 2 0,l.getD 3 0⟩:ai)).getD k default).x,((cR T.W.field (⟨l.getD 0 0,l.getD 1 0⟩:ai) (⟨l.getD 2 0,l.getD 3 0⟩:ai)).getD k default).y]) Xv [[γ (((cR T.W.field (⟨l.getD 0 0,l.getD 1 0⟩:ai) (⟨l.getD 2 0,l.getD 3 0⟩:ai)).getD k default).x)], [γ (((cR T.W.field (⟨l.getD 0 0,l.getD 1 0⟩:ai) (⟨l.getD 2 0,l.getD 3 0⟩:ai)).getD k default).y)]] Z (⟨⟨Z,px.1⟩,⟨⟨Z,px.2⟩,trivial⟩⟩) (by simp) (by simp)) (Zq px) (by simp) ar (by omega)).mono ?_);rintro e K7 ⟨aDk,aFo,rfl,akj,hY⟩;refine cF ?_;have:=hY.size;have xI:=J A8 hY;refine c0 Z' Z (RG (az [44]) akj.has (by have:=Rq px;unfold zO at this;omega)) λ PJ iR=> ?_;have:=iR.size;have u':=J xI iR;refine b_ (e:= 9) (cs:= [.string ((kZ (eg ([((cR T.W.field (⟨l.getD 0 0,l.getD 1 0⟩:ai) (⟨l.getD 2 0,l.getD 3 0⟩:ai)).getD k default).x,((cR T.W.field (⟨l.getD 0 0,l.getD 1 0⟩:ai) (⟨l.getD 2 0,l.getD 3 0⟩:ai)).getD k default).y])) (az [44])))]) Z (λ _=>by kernel_rfl) Z λ PL Yt kP aef vo=> ?_;have ze:=J u' kP;have afT:=vo.lt;have bW:=((bW.later r0).mod gj (bl Pv)).later (J fq (J hY (J iR kP)));refine ap ajo pF bW (aO.fy (R:=e_) (by_:=16) (q:=(kZ (eg ([((cR T.W.field (⟨l.getD 0 0,l.getD 1 0⟩:ai) (⟨l.getD 2 0,l.getD 3 0⟩:ai)).getD k default).x,((cR T.W.field (⟨l.getD 0 0,l.getD 1 0⟩:ai) (⟨l.getD 2 0,l.getD 3 0⟩:ai)).getD k default).y])) (az [44]))) vo ⟨Z,(by have:=Rq px;unfold zO at this;omega)⟩ (by decide)) Z Z (by simp only [aM1,aM5];omega) (by simp only [aM1,aM5];omega) ze.size Z λ K8 aiR amE OO akK aaT aJH=> ?_;have ny:=Ext.mod ze OO (λ q I=>(bW.lt q I).1);refine va Z<|nl<|cl<|eR Z Z Z<| ?_;have b1:=(((b1.later r0).mod gj (c2 λ q I af=>by have:=xm q I;have:=gA q I;omega)).later (J fq (J hY (J iR kP)))).mod OO (gg FC);have ar:=(ar.later (J hY (J iR kP))).mod OO (λ q I=>by have:=(λ q I=>(bW.lt q I).1) q I;omega);have sb:=(((sb.later r0).mod gj (c2 λ q I af=>by have:=ag7 q I;have:=VR q I;omega)).later (J fq (J hY (J iR kP)))).mod OO (gg ot);exact eX ⟨k+1,aiR,amE,o++ [(kZ (eg ([((cR T.W.field (⟨l.getD 0 0,l.getD 1 0⟩:ai) (⟨l.getD 2 0,l.getD 3 0⟩:ai)).getD k default).x,((cR T.W.field (⟨l.getD 0 0,l.getD 1 0⟩:ai) (⟨l.getD 2 0,l.getD 3 0⟩:ai)).getD k default).y])) (az [44]))],Z,Z,ny,b1,ar,sb,akK,by omega,by rw [bk,MZ (by omega),aNB];rfl,(λ q I af=>by (exact aNq (aaT q I) (λ adU=>by (exact FC q adU af)) (λ adU=>by (have:=xm q af;have:=gA q af;omega)))),(λ q I af=>by (exact aNq (aaT q I) (λ adV=>by (exact ot q adV af)) (λ adV=>by (have:=ag7 q af;have:=VR q af;omega))))⟩
 ·refine ej<|ei<|eU<|eh<|br<|aK Z<|bH Z<|cZ Z Z<| ?_;have e:o=eg [iA T.W.field (⟨l.getD 0 0,l.getD 1 0⟩:ai) (⟨l.getD 2 0,l.getD 3 0⟩:ai)]++(cR T.W.field (⟨l.getD 0 0,l.getD 1 0⟩:ai) (⟨l.getD 2 0,l.getD 3 0⟩:ai)).map zO:=by rw [bk,aNr (by omega)]
  subst e;exact .inr ⟨by rw [La hc],ct,co,by rw [La hc];rfl,by rw [La hc];exact bW,by rw [La hc];exact aBj (cI.2 (by omega)) sb.has apL,by rw [La hc];exact gx.same aX jW⟩
theorem oX:(10:Int)≠0:=by decide
section
variable {T:bP} {n:Nat} {ws:List ByteArray} {f:List Int→om} {l:List Int} {s:ByteArray}
theorem gG (h:ec n ws=none):jT T n ws f=⟨10, [],T⟩:=by unfold jT;rw [h]
theorem c_ (h:ec n ws=some l):jT T n ws f=f l:=by unfold jT;rw [h]
theorem OY (h:s=az [104,105,116]):kI s=3:=aNd h
theorem Bp {a b:List UInt8} (h:a≠b):az a≠az b:=λ e=>h (MC e)
theorem Cj (h:s=az [103,111]∨s=az [109,105,110,101]):kI s=4:=by
 unfold kI;rw [aM4,aNd h];rcases h with rfl | rfl<;>exact Bp (by decide)
theorem Ci (κ:¬ s=az [104,105,116]) (τ:¬ (s=az [103,111]∨s=az [109,105,110,101])):kI s=2:=by
 unfold kI;rw [aM4 κ,aM4 τ]
theorem axb (h:s=az [104,105,116]):oS s l=⟨l.getD 0 0,1,l.getD 1 0,⟨0,0⟩,l.getD 2 0⟩:=aNd h
theorem axa (h:s=az [103,111]):oS s l=⟨l.getD 0 0,2,l.getD 1 0,⟨l.getD 2 0,l.getD 3 0⟩,0⟩:=by
 subst h;unfold oS;rw [aM4 (Bp (by decide)),aNd rfl]
theorem axd (h:s=az [109,105,110,101]):oS s l=⟨l.getD 0 0,3,l.getD 1 0,⟨l.getD 2 0,l.getD 3 0⟩,0⟩:=by
 subst h;unfold oS;rw [aM4 (Bp (by decide)),aM4 (Bp (by decide)),aNd rfl]
theorem aw9 (h:s=az [100,114,111,112]):oS s l=⟨l.getD 0 0,4,l.getD 1 0,⟨0,0⟩,0⟩:=by
 subst h;unfold oS;rw [aM4 (Bp (by decide)),aM4 (Bp (by decide)),aM4 (Bp (by decide)),aNd rfl]
theorem axc (κ:¬ s=az [104,105,116]) (τ:¬ s=az [103,111]) (aq:¬ s=az [109,105,110,101]) (bb:¬ s=az [100,114,111,112]):oS s l=⟨l.getD 0 0,5,0,⟨0,0⟩,l.getD 1 0⟩:=by
 unfold oS;rw [aM4 κ,aM4 τ,aM4 aq,aM4 bb]
theorem axe (bk:∀ x∈l,dB x):(oS s l).ok:=by
 have g:∀ i,dB (l.getD i 0):=λ i=>by
  by_cases h:i<l.length
  ·exact BK bk h
  ·rw [aM0,aP1 (by omega)];exact cI.2 (by decide)
 have z:∀ k:Int,0≤k→k≤9→dB k:=λ k κ τ=>cI.2 (by omega);unfold oS;split
 ·exact ⟨g 0,z 1 (by decide) (by decide),g 1,z 0 (by decide) (by decide),z 0 (by decide) (by decide),g 2⟩
 ·split
  ·exact ⟨g 0,z 2 (by decide) (by decide),g 1,g 2,g 3,z 0 (by decide) (by decide)⟩
  ·split
   ·exact ⟨g 0,z 3 (by decide) (by decide),g 1,g 2,g 3,z 0 (by decide) (by decide)⟩
   ·split
    ·exact ⟨g 0,z 4 (by decide) (by decide),g 1,z 0 (by decide) (by decide),z 0 (by decide) (by decide),z 0 (by decide) (by decide)⟩
    ·exact ⟨g 0,z 5 (by decide) (by decide),z 0 (by decide) (by decide),z 0 (by decide) (by decide),z 0 (by decide) (by decide),g 1⟩
end
theorem axf (b sq aA:Nat) (h:gP) (T:bP) (s:ByteArray) (A:Option Addr) (c:Nat) (ws:List ByteArray) (w0:World) (w:World) (cX:Ext w0 w) (aX:gQ w0 b h T) (hK:ki w w0.heap.size sq A c ws) (ar:fu aA w) (sK:aA≤b) (kX:w0.heap.size≤sq):
  Calls prog 48 #[.pointer (a_ b), .string s, .pointer (a_ sq)] w (iL w0 b h T (jT T (kI s) ws λ l=>T.wait (oS s l))):=by
 have aE:=aX.B.later cX;have bO:=aX.W.later cX;have b1:=aX.L.later cX;have uq:=aX.B.lt;have aK4:=hK.B.lt;have pL:=λ q I=>(aX.W.lt q I).2;have pK:=λ q I=>(aX.L.lt q I).2;refine cx (n:=72) func48 Z Z Z ?_;refine aF<|aT Z<|aF<|dn M8 Z λ Cv Fl d' aeg de=> ?_;have lB:=J cX d';refine aJ<| ?_;refine KK (λ cu aV=>∃ o:bC,∃ qt:List Int,cu= [(0, .pointer (a_ b)),(6, .slice none 0 0),(7, .pointer (a_ Fl))]∧Ext w0 aV∧aO aV b [γ T.W.field.wide,γ T.W.field.high, .slice h.a.P T.W.field.places.length h.a.p, .slice h.a.B T.W.bj.length h.a.b, .slice h.a.S T.W.bh.length h.a.s, .slice h.a.M T.W.bY.length h.a.m, .slice h.a.T T.W.ah.length h.a.t,γ T.W.next,γ T.W.now, .slice h.A T.L.length h.c] 55 (0,0)∧bt aV (b+1) h.a T.W∧bC.rep.aM 110 48 aV (b+1) (Φ.ab h.A) h.A h.c (T.L)∧fu aA aV∧aO aV Fl [γ o.by_,γ o.kind,γ o.bf,γ o.spot.x,γ o.spot.y,γ o.what] 110 (0,0)∧(ec (kI s) ws=some qt)∧(o=oS s qt)∧(∀ x∈qt,dB x)) ?_ ?_
 ·refine aK Z<|aJ<|bT<|aF<|aa (kj underlying9 Z Z)<|aT Z<| ?_;refine c1 Z (λ hT=> ?_) (λ hT=> ?_)
  ·simp only [aM8,aM7] at hT;refine aK Z<| ?_;have hK:=hK.later d';have ar:=ar.later d';refine hD rh Z Z ((rO w0.heap.size sq _ _ ws 3 _ hK (ar.up (by omega)) (by decide)).mono ?_);rintro e y4 (⟨F7,rfl,gw⟩ | ⟨yJ,WR,YK,F7,rfl,C2,jP⟩)
   ·refine .inl ⟨_,Z, ?_⟩;have iz:=Ext.mod lB gw bF;refine dR<|kt<|GY<|gm<| ?_;have aE:=(aE.later d').mod gw aY;have bO:=(bO.later d').mod gw (bl pL);have b1:=(b1.later d').mod gw (bl pK);exact .inl ⟨by rw [gG (show ec (kI s) ws=none by rw [OY hT];exact F7)];exact oX,by rw [gG (show ec (kI s) ws=none by rw [OY hT];exact F7)],by rw [gG (show ec (kI s) ws=none by rw [OY hT];exact F7)];exact ⟨h,⟨aE,bO,b1,aX.d,aX.cC⟩,λ q I=> .inl I,Mod.aP iz⟩⟩
   refine .inr ⟨_,Z, ?_⟩;have iz:=Ext.mod lB jP bF;have aGQ:=xb F7;have asG:=rC C2.has;refine aT Z<| ?_;refine dw [(2,0),(5,0),(8,0),(10,3)] [0,1,2,3,4,5,6,7,8,9,10] ?_;refine bn Z Z<|ax Z (λ _=>bX 0 underlying46 cr Z Z (C2.has.bw (aZ 0)) Z (by omega))<|cS Z (λ _ x=>aB Z (Φ.aQ.dj dA ((C2.later x).has.cg (aZ 0)) (cj (l:=yJ) (u:=0) (j:=0) (by omega)) Z a6))<|bn Z Z<|ax Z (λ _=>bX 1 underlying46 cr Z Z (C2.has.bw (aZ 1)) Z (by omega))<|cS Z (λ _ x=>aB Z (Φ.aQ.dj dA ((C2.later x).has.cg (aZ 1)) (cj (l:=yJ) (u:=0) (j:=1) (by omega)) Z a6))<|bn Z Z<|ax Z (λ _=>bX 2 underlying46 cr Z Z (C2.has.bw (aZ 2)) Z (by omega))<|cS Z (λ _ x=>aB Z (Φ.aQ.dj dA ((C2.later x).has.cg (aZ 2)) (cj (l:=yJ) (u:=0) (j:=2) (by omega)) Z a6))<|kn (v:= .agg #[γ (yJ.getD 0 0),γ 1,γ (yJ.getD 1 0),γ 0,γ 0,γ (yJ.getD 2 0)]) Z Z (λ _=>gR Z (by kernel_rfl)) Z<| ?_;have de:=de.mod jP aY;refine dC Z Z Z λ rW jU Q hK=>c9 Z Z (de.later jU) Z fV Z Z λ Hf ud de=>hK _ _ ?_;have hZ:=J iz jU;have nu:=Ext.mod hZ ud bF;refine fn λ EC jD=> ?_;have nv:=J nu jD;refine cl<| ?_;have aE:=((((aE.later d').mod jP aY).later jU).mod ud aY).later jD;have bO:=((((bO.later d').mod jP (bl pL)).later jU).mod ud (bl pL)).later jD;have b1:=((((b1.later d').mod jP (bl pK)).later jU).mod ud (bl pK)).later jD;have ar:=(((ar.mod jP (λ q I=>by have:=I;simp only [aMZ] at this;omega)).later jU).mod ud (λ q I=>by have:=I;simp only [aMZ] at this;omega)).later jD;have de:=de.later jD;exact my _ ⟨(⟨yJ.getD 0 0,1,yJ.getD 1 0,⟨0,0⟩,yJ.getD 2 0⟩:bC),yJ,Z,nv,aE,bO,b1,ar,de,by rw [OY hT];exact F7,(axb hT).symm,asG⟩ (ih Z)
  ·simp only [aM8,aM7] at hT;refine aI<|aF<|aa (kj underlying9 Z Z)<|aT Z<| ?_;refine c1 Z (λ mW=> ?_) (λ mW=> ?_)
   ·simp only [aM8,aM7] at mW;refine bE<|gZ (gy Z (aNp mW))<|aK Z<| ?_;have hK:=hK.later d';have ar:=ar.later d';refine hD rh Z Z ((rO w0.heap.size sq _ _ ws 4 _ hK (ar.up (by omega)) (by decide)).mono ?_);rintro e Cu (⟨F8,rfl,iv⟩ | ⟨qq,aDd,aFi,F8,rfl,zz,iP⟩)
    ·refine .inl ⟨_,Z, ?_⟩;have l6:=Ext.mod lB iv bF;refine dR<|kt<|GY<|gm<| ?_;have aE:=(aE.later d').mod iv aY;have bO:=(bO.later d').mod iv (bl pL);have b1:=(b1.later d').mod iv (bl pK);exact .inl ⟨by rw [gG (show ec (kI s) ws=none by rw [Cj (.inl mW)];exact F8)];exact oX,by rw [gG (show ec (kI s) ws=none by rw [Cj (.inl mW)];exact F8)],by rw [gG (show ec (kI s) ws=none by rw [Cj (.inl mW)];exact F8)];exact ⟨h,⟨aE,bO,b1,aX.d,aX.cC⟩,λ q I=> .inl I,Mod.aP l6⟩⟩
    refine .inr ⟨_,Z, ?_⟩;have l6:=Ext.mod lB iP bF;have aGR:=xb F8;have asH:=rC zz.has;refine aT Z<|aI<| ?_;refine dw [(2,0),(5,0),(8,0),(11,0),(14,3)] [0,1,2,3,4,5,6,7,8,9,10,11,12,13,14] ?_;refine bn Z Z<|ax Z (λ _=>bX 0 underlying46 cr Z Z (zz.has.bw (aZ 0)) Z (by omega))<|cS Z (λ _ x=>aB Z (Φ.aQ.dj dA ((zz.later x).has.cg (aZ 0)) (cj (l:=qq) (u:=0) (j:=0) (by omega)) Z a6))<|bn Z Z<|ax Z (λ _=>bX 1 underlying46 cr Z Z (zz.has.bw (aZ 1)) Z (by omega))<|cS Z (λ _ x=>aB Z (Φ.aQ.dj dA ((zz.later x).has.cg (aZ 1)) (cj (l:=qq) (u:=0) (j:=1) (by omega)) Z a6))<|bn Z Z<|ax Z (λ _=>bX 2 underlying46 cr Z Z (zz.has.bw (aZ 2)) Z (by omega))<|cS Z (λ _ x=>aB Z (Φ.aQ.dj dA ((zz.later x).has.cg (aZ 2)) (cj (l:=qq) (u:=0) (j:=2) (by omega)) Z a6))<|bn Z Z<|ax Z (λ _=>bX 3 underlying46 cr Z Z (zz.has.bw (aZ 3)) Z (by omega))<|cS Z (λ _ x=>aB Z (Φ.aQ.dj dA ((zz.later x).has.cg (aZ 3)) (cj (l:=qq) (u:=0) (j:=3) (by omega)) Z a6))<|kn (v:= .agg #[γ (qq.getD 2 0),γ (qq.getD 3 0)]) Z Z (λ _=>gR Z (by kernel_rfl)) Z<|kn (v:= .agg #[γ (qq.getD 0 0),γ 2,γ (qq.getD 1 0),γ (qq.getD 2 0),γ (qq.getD 3 0),γ 0]) Z Z (λ _=>gR Z (by kernel_rfl)) Z<| ?_;have de:=de.mod iP aY;refine dC Z Z Z λ ahp s7 Q hK=>c9 Z Z (de.later s7) Z fV Z Z λ V4 GN de=>hK _ _ ?_;have Lo:=J l6 s7;have CH:=Ext.mod Lo GN bF;refine fn λ xu dm=> ?_;have k5:=J CH dm;refine br<|aK Z<|aa (kj underlying9 Z Z)<|aJ<| ?_;refine c1 Z (λ tQ=> ?_) (λ tQ=> ?_)
    ·simp only [aM8,aM7] at tQ;exact absurd (mW.symm.trans tQ) (Bp (by decide))
    ·simp only [aM8,aM7] at tQ;refine fZ<|cl<| ?_;have aE:=((((aE.later d').mod iP aY).later s7).mod GN aY).later dm;have bO:=((((bO.later d').mod iP (bl pL)).later s7).mod GN (bl pL)).later dm;have b1:=((((b1.later d').mod iP (bl pK)).later s7).mod GN (bl pK)).later dm;have ar:=(((ar.mod iP (λ q I=>by have:=I;simp only [aMZ] at this;omega)).later s7).mod GN (λ q I=>by have:=I;simp only [aMZ] at this;omega)).later dm;have de:=de.later dm;exact my _ ⟨(⟨qq.getD 0 0,2,qq.getD 1 0,⟨qq.getD 2 0,qq.getD 3 0⟩,0⟩:bC),qq,Z,k5,aE,bO,b1,ar,de,by rw [Cj (.inl mW)];exact F8,(axa mW).symm,asH⟩ (ih Z)
   ·simp only [aM8,aM7] at mW;refine rg<|aa (kj underlying9 Z Z)<|aT Z<| ?_;refine c1 Z (λ j7=> ?_) (λ j7=> ?_)
    ·simp only [aM8,aM7] at j7;refine aK Z<| ?_;have hK:=hK.later d';have ar:=ar.later d';refine hD rh Z Z ((rO w0.heap.size sq _ _ ws 4 _ hK (ar.up (by omega)) (by decide)).mono ?_);rintro e V7 (⟨F9,rfl,CD⟩ | ⟨qs,aDh,aFm,F9,rfl,zA,GO⟩)
     ·refine .inl ⟨_,Z, ?_⟩;have A8:=Ext.mod lB CD bF;refine dR<|kt<|GY<|gm<| ?_;have aE:=(aE.later d').mod CD aY;have bO:=(bO.later d').mod CD (bl pL);have b1:=(b1.later d').mod CD (bl pK);exact .inl ⟨by rw [gG (show ec (kI s) ws=none by rw [Cj (.inr j7)];exact F9)];exact oX,by rw [gG (show ec (kI s) ws=none by rw [Cj (.inr j7)];exact F9)],by rw [gG (show ec (kI s) ws=none by rw [Cj (.inr j7)];exact F9)];exact ⟨h,⟨aE,bO,b1,aX.d,aX.cC⟩,λ q I=> .inl I,Mod.aP A8⟩⟩
     refine .inr ⟨_,Z, ?_⟩;have A8:=Ext.mod lB GO bF;have aGU:=xb F9;have asI:=rC zA.has;refine aT Z<|aI<| ?_;refine dw [(2,0),(5,0),(8,0),(11,0),(14,3)] [0,1,2,3,4,5,6,7,8,9,10,11,12,13,14] ?_;refine bn Z Z<|ax Z (λ _=>bX 0 underlying46 cr Z Z (zA.has.bw (aZ 0)) Z (by omega))<|cS Z (λ _ x=>aB Z (Φ.aQ.dj dA ((zA.later x).has.cg (aZ 0)) (cj (l:=qs) (u:=0) (j:=0) (by omega)) Z a6))<|bn Z Z<|ax Z (λ _=>bX 1 underlying46 cr Z Z (zA.has.bw (aZ 1)) Z (by omega))<|cS Z (λ _ x=>aB Z (Φ.aQ.dj dA ((zA.later x).has.cg (aZ 1)) (cj (l:=qs) (u:=0) (j:=1) (by omega)) Z a6))<|bn Z Z<|ax Z (λ _=>bX 2 underlying46 cr Z Z (zA.has.bw (aZ 2)) Z (by omega))<|cS Z (λ _ x=>aB Z (Φ.aQ.dj dA ((zA.later x).has.cg (aZ 2)) (cj (l:=qs) (u:=0) (j:=2) (by omega)) Z a6))<|bn Z Z<|ax Z (λ _=>bX 3 underlying46 cr Z Z (zA.has.bw (aZ 3)) Z (by omega))<|cS Z (λ _ x=>aB Z (Φ.aQ.dj dA ((zA.later x).has.cg (aZ 3)) (cj (l:=qs) (u:=0) (j:=3) (by omega)) Z a6))<|kn (v:= .agg #[γ (qs.getD 2 0),γ (qs.getD 3 0)]) Z Z (λ _=>gR Z (by kernel_rfl)) Z<|kn (v:= .agg #[γ (qs.getD 0 0),γ 2,γ (qs.getD 1 0),γ (qs.getD 2 0),γ (qs.getD 3 0),γ 0]) Z Z (λ _=>gR Z (by kernel_rfl)) Z<| ?_;have de:=de.mod GO aY;refine dC Z Z Z λ PG gY Q hK=>c9 Z Z (de.later gY) Z fV Z Z λ K5 lR de=>hK _ _ ?_;have A9:=J A8 gY;have uZ:=Ext.mod A9 lR bF;refine fn λ ahu mH=> ?_;have Lq:=J uZ mH;refine br<|aK Z<|aa (kj underlying9 Z Z)<|aJ<|gZ (gy Z (aNp j7))<|rg<|aa (au ow Z)<| ?_;have de:=de.later mH;refine fM Z Z de Z cr Z Z λ PK gW de=> ?_;have A_:=Ext.mod Lq gW bF;refine nl<|cl<| ?_;have dW:=ua mH gW;have aE:=((((aE.later d').mod GO aY).later gY).mod lR aY).mod dW aY;have bO:=((((bO.later d').mod GO (bl pL)).later gY).mod lR (bl pL)).mod dW (bl pL);have b1:=((((b1.later d').mod GO (bl pK)).later gY).mod lR (bl pK)).mod dW (bl pK);have ar:=(((ar.mod GO (λ q I=>by have:=I;simp only [aMZ] at this;omega)).later gY).mod lR (λ q I=>by have:=I;simp only [aMZ] at this;omega)).mod dW (λ q I=>by have:=I;simp only [aMZ] at this;omega);exact my _ ⟨(⟨qs.getD 0 0,3,qs.getD 1 0,⟨qs.getD 2 0,qs.getD 3 0⟩,0⟩:bC),qs,Z,A_,aE,bO,b1,ar,de,by rw [Cj (.inr j7)];exact F9,(axd j7).symm,asI⟩ (ih Z)
    ·simp only [aM8,aM7] at j7;refine aF<|aa (kj underlying9 Z Z)<|aT Z<| ?_;refine c1 Z (λ Ag=> ?_) (λ Ag=> ?_)
     ·simp only [aM8,aM7] at Ag;refine aK Z<| ?_;have hK:=hK.later d';have ar:=ar.later d';refine hD rh Z Z ((rO w0.heap.size sq _ _ ws 2 _ hK (ar.up (by omega)) (by decide)).mono ?_);rintro e K8 (⟨F_,rfl,k3⟩ | ⟨DY,aDm,aFq,F_,rfl,H5,qA⟩)
      ·refine .inl ⟨_,Z, ?_⟩;have ny:=Ext.mod lB k3 bF;refine dR<|kt<|GY<|gm<| ?_;have aE:=(aE.later d').mod k3 aY;have bO:=(bO.later d').mod k3 (bl pL);have b1:=(b1.later d').mod k3 (bl pK);exact .inl ⟨by rw [gG (show ec (kI s) ws=none by rw [Ci hT (λ e=>e.elim mW j7)];exact F_)];exact oX,by rw [gG (show ec (kI s) ws=none by rw [Ci hT (λ e=>e.elim mW j7)];exact F_)],by rw [gG (show ec (kI s) ws=none by rw [Ci hT (λ e=>e.elim mW j7)];exact F_)];exact ⟨h,⟨aE,bO,b1,aX.d,aX.cC⟩,λ q I=> .inl I,Mod.aP ny⟩⟩
      refine .inr ⟨_,Z, ?_⟩;have ny:=Ext.mod lB qA bF;have aGV:=xb F_;have asL:=rC H5.has;refine aT Z<| ?_;refine dw [(2,0),(5,0),(7,3)] [0,1,2,3,4,5,6,7] ?_;refine bn Z Z<|ax Z (λ _=>bX 0 underlying46 cr Z Z (H5.has.bw (aZ 0)) Z (by omega))<|cS Z (λ _ x=>aB Z (Φ.aQ.dj dA ((H5.later x).has.cg (aZ 0)) (cj (l:=DY) (u:=0) (j:=0) (by omega)) Z a6))<|bn Z Z<|ax Z (λ _=>bX 1 underlying46 cr Z Z (H5.has.bw (aZ 1)) Z (by omega))<|cS Z (λ _ x=>aB Z (Φ.aQ.dj dA ((H5.later x).has.cg (aZ 1)) (cj (l:=DY) (u:=0) (j:=1) (by omega)) Z a6))<|kn (v:= .agg #[γ (DY.getD 0 0),γ 4,γ (DY.getD 1 0),γ 0,γ 0,γ 0]) Z Z (λ _=>gR Z (by kernel_rfl)) Z<| ?_;have de:=de.mod qA aY;refine dC Z Z Z λ Hi kv Q hK=>c9 Z Z (de.later kv) Z fV Z Z λ K9 Kk de=>hK _ _ ?_;have ob:=J ny kv;have ve:=Ext.mod ob Kk bF;refine fn λ K_ mI=> ?_;have zf:=J ve mI;refine cl<| ?_;have aE:=((((aE.later d').mod qA aY).later kv).mod Kk aY).later mI;have bO:=((((bO.later d').mod qA (bl pL)).later kv).mod Kk (bl pL)).later mI;have b1:=((((b1.later d').mod qA (bl pK)).later kv).mod Kk (bl pK)).later mI;have ar:=(((ar.mod qA (λ q I=>by have:=I;simp only [aMZ] at this;omega)).later kv).mod Kk (λ q I=>by have:=I;simp only [aMZ] at this;omega)).later mI;have de:=de.later mI;exact my _ ⟨(⟨DY.getD 0 0,4,DY.getD 1 0,⟨0,0⟩,0⟩:bC),DY,Z,zf,aE,bO,b1,ar,de,by rw [Ci hT (λ e=>e.elim mW j7)];exact F_,(aw9 Ag).symm,asL⟩ (ih Z)
     ·simp only [aM8,aM7] at Ag;refine aK Z<| ?_;have hK:=hK.later d';have ar:=ar.later d';refine hD rh Z Z ((rO w0.heap.size sq _ _ ws 2 _ hK (ar.up (by omega)) (by decide)).mono ?_);rintro e Wb (⟨F',rfl,P2⟩ | ⟨DZ,aDo,aFs,F',rfl,H6,mq⟩)
      ·refine .inl ⟨_,Z, ?_⟩;have A':=Ext.mod lB P2 bF;refine dR<|kt<|GY<|gm<| ?_;have aE:=(aE.later d').mod P2 aY;have bO:=(bO.later d').mod P2 (bl pL);have b1:=(b1.later d').mod P2 (bl pK);exact .inl ⟨by rw [gG (show ec (kI s) ws=none by rw [Ci hT (λ e=>e.elim mW j7)];exact F')];exact oX,by rw [gG (show ec (kI s) ws=none by rw [Ci hT (λ e=>e.elim mW j7)];exact F')],by rw [gG (show ec (kI s) ws=none by rw [Ci hT (λ e=>e.elim mW j7)];exact F')];exact ⟨h,⟨aE,bO,b1,aX.d,aX.cC⟩,λ q I=> .inl I,Mod.aP A'⟩⟩
      refine .inr ⟨_,Z, ?_⟩;have A':=Ext.mod lB mq bF;have aGW:=xb F';have asN:=rC H6.has;refine aT Z<| ?_;refine dw [(2,0),(5,0),(7,3)] [0,1,2,3,4,5,6,7] ?_;refine bn Z Z<|ax Z (λ _=>bX 0 underlying46 cr Z Z (H6.has.bw (aZ 0)) Z (by omega))<|cS Z (λ _ x=>aB Z (Φ.aQ.dj dA ((H6.later x).has.cg (aZ 0)) (cj (l:=DZ) (u:=0) (j:=0) (by omega)) Z a6))<|bn Z Z<|ax Z (λ _=>bX 1 underlying46 cr Z Z (H6.has.bw (aZ 1)) Z (by omega))<|cS Z (λ _ x=>aB Z (Φ.aQ.dj dA ((H6.later x).has.cg (aZ 1)) (cj (l:=DZ) (u:=0) (j:=1) (by omega)) Z a6))<|kn (v:= .agg #[γ (DZ.getD 0 0),γ 5,γ 0,γ 0,γ 0,γ (DZ.getD 1 0)]) Z Z (λ _=>gR Z (by kernel_rfl)) Z<| ?_;have de:=de.mod mq aY;refine dC Z Z Z λ VW o2 Q hK=>c9 Z Z (de.later o2) Z fV Z Z λ aLy J' de=>hK _ _ ?_;have A3:=J A' o2;have aB3:=Ext.mod A3 J' bF;refine fn λ VY fN=> ?_;have EU:=J aB3 fN;refine cl<| ?_;have aE:=((((aE.later d').mod mq aY).later o2).mod J' aY).later fN;have bO:=((((bO.later d').mod mq (bl pL)).later o2).mod J' (bl pL)).later fN;have b1:=((((b1.later d').mod mq (bl pK)).later o2).mod J' (bl pK)).later fN;have ar:=(((ar.mod mq (λ q I=>by have:=I;simp only [aMZ] at this;omega)).later o2).mod J' (λ q I=>by have:=I;simp only [aMZ] at this;omega)).later fN;have de:=de.later fN;exact my _ ⟨(⟨DZ.getD 0 0,5,0,⟨0,0⟩,DZ.getD 1 0⟩:bC),DZ,Z,EU,aE,bO,b1,ar,de,by rw [Ci hT (λ e=>e.elim mW j7)];exact F',(axc hT mW j7 Ag).symm,asN⟩ (ih Z)
 rintro aDB aLz ⟨o,qt,rfl,Wt,aE,bO,b1,ar,aiY,BN,asM,ase⟩;have:=Wt.size;refine aK Z<|aa (aB Z (aiY.all j4 fV))<| ?_;subst asM;refine hD aoW Z Z ((aBd b h T (oS s qt) _ ⟨aE,bO,b1,aX.d,aX.cC⟩ (axe ase)).mono ?_);rintro e V0 (⟨hr,rfl,kW⟩ | ⟨hr,vh,vP,rfl,vD,vX,kW⟩)
 ·refine .inl ⟨_,Z, ?_⟩;refine dR<|gm<| ?_;exact .inl ⟨by rw [c_ BN];exact hr,by rw [c_ BN],by rw [c_ BN];exact kW.before Wt⟩
 refine .inr ⟨_,Z, ?_⟩;refine bH Z<|cZ Z Z<| ?_;exact .inr ⟨by rw [c_ BN];exact hr,vh,vP,by rw [c_ BN];rfl,by rw [c_ BN];exact vD.down (by omega),by rw [c_ BN];exact vX,by rw [c_ BN];exact kW.before Wt⟩
end
section
variable {b c:World} {o:Oper} {op:Op}
def lC (D:Nat) (w w':World):Prop:=w.heap.size≤w'.heap.size∧(D≤w.heap.size→Below D w w')
theorem lC.n4 {D:Nat} {a:World} (h:lC D a b) (k:lC D b c):lC D a c:=⟨aNm h.1 k.1,λ hd=>aRt (h.2 hd) (k.2 (aNm hd h.1))⟩
theorem lC.of {D:Nat} {a:World} (h:Ext a b):lC D a b:=⟨h.size,λ hd=>aP3 h hd⟩
theorem lC.at {a:World} (h:lC a.heap.size a b):Ext a b:=h.2 (aNk _)
theorem lC.md {D:Nat} {a:World} {S:List Nat} (h:Ext a b) (m:Mod S b c) (hS:∀ q∈S,D≤q):lC D a c :=
  ⟨aNm h.size m.size,λ hd=>aRt (aP3 h hd) (m.below hS (aNm hd h.size))⟩
section
variable {D:Nat} {P:Program} {ops:Array Oper} {Q:Exit→Act→World→Prop} {aL:Nat→Nat}
def tz (D:Nat) (P:Program) (ops:Array Oper) (w0:World) (o:Oper) (v:Value) (a:Act):Prop :=
  (Region.wanted o (yielded ops a.tmps)=true∧∀ w,lC D w0 w→uo P w v ((execOp a.eval o).run P w))∨
  (Region.wanted o (yielded ops a.tmps)=false∧v=undef)
theorem tz.of_same {w0:World} {v:Value} {a a':Act} (h:tz D P ops w0 o v a) (he:execOp a'.eval o=execOp a.eval o) (hw:Region.wanted o (yielded ops a'.tmps)=Region.wanted o (yielded ops a.tmps)):tz D P ops w0 o v a':=by
  unfold tz at *;rw [he,hw];exact h
theorem tz.on {w0 aN:World} {v:Value} {a:Act} (h:tz D P ops w0 o v a) (hx:lC D w0 aN):tz D P ops aN o v a :=
  h.imp (λ ⟨κ,τ⟩=>⟨κ,λ w hw=>τ w (hx.n4 hw)⟩) id
theorem Yields.ayk {w0:World} {v:Value} {a:Act} (h:Yields P ops o v a):tz D P ops w0 o v a :=
  h.imp (λ ⟨κ,τ⟩=>⟨κ,λ w _=>by rw [τ w];exact ⟨rfl,rfl⟩⟩) id
def azL (D:Nat) (P:Program) (ops:Array Oper) (Q:Exit→Act→World→Prop) (aL:Nat→Nat) (i:Nat) (K:Act→World→Prop) (a:Act) (w0:World):Prop :=
  ∃ o,ops[i]? =some o∧
    ((aL i≤1∧∃ v,tz D P ops w0 o v a∧K (a.put o.dst v) w0)∨
     (1<aL i∧∀ w,Ext w0 w→wpOp P ops Q i (λ a' w'=>(aL i=2→lC D w0 w')∧K a' w') a w))
def Io (D:Nat) (P:Program) (ops:Array Oper) (Q:Exit→Act→World→Prop) (aL:Nat→Nat):Nat→Array Bool→Act→World→Prop
  | 0,l,a,w0=>Region.ready .any ops l= []∧∀ w,Ext w0 w→Q .normal a w
  | f+1,l,a,w0=>(Region.ready .any ops l= []→∀ w,Ext w0 w→Q .normal a w)∧∀ i∈Region.ready .any ops l,azL D P ops Q aL i (Io D P ops Q aL f (l.setIfInBounds i true)) a w0
theorem Fi:∀ (f:Nat) (l:Array Bool) (a:Act) (w0:World),Io D P ops Q aL f l a w0→∀ w,Ext w0 w→wpAny P .any ops Q f l a w
  | 0,_,_,_,h,w,hw=>⟨h.1,h.2 w hw⟩
  | f+1,l,a,w0,h,w,hw=>⟨λ aC=>h.1 aC w hw,λ i ak=>by
      obtain ⟨o,bk,τ⟩:=h.2 i ak;rcases τ with ⟨_,v,I,aj⟩ | ⟨_,τ⟩
      · unfold wpOp
        simp only [bk];rcases I with ⟨jb,I⟩ | ⟨jb,rfl⟩
        · rw [aNd jb]
          refine .inl ?_;have I:=I w (lC.of hw);unfold Oper.wp;generalize (execOp a.eval o).run P w=r at *
          cases r with
          | ok n w' =>
            cases n<;>simp only [uo] at I<;>simp only [Oper.upon]
            case value u=>obtain ⟨rfl,rfl⟩:=I;exact Fi f _ _ _ aj _ hw
            case skip=>obtain ⟨rfl,rfl⟩:=I;exact Fi f _ _ _ aj _ hw
            case enter f' args=>obtain ⟨rfl,hc⟩:=I;exact hc.mono λ e ku ⟨he,hx⟩=>by subst he;exact Fi f _ _ _ aj _ (hw.n4 hx)
          | halt x w'=>simp only [uo] at I
        · rw [aM4 (by rw [jb];decide)]
          exact Fi f _ _ _ aj _ hw
      · exact aOK (λ a' w' aq=>Fi f _ _ _ aq.2 _ (Ext.bN w')) (τ w hw)⟩
theorem aat {i:Nat} {c8:Oper} {v:Value} (ak:ops[i]? =some c8) (aj:aL i≤1) (j9:∀ (j:Nat) (o:Oper) cs b,ops[j]? =some o→o.op≠ .select cs b)
    (eJ:∀ c a w,¬ Q (.panic c) a w) (aA:World→Act→Prop) (ky:∀ w0 a,aA w0 a→tz D P ops w0 c8 v a)
    (z2:∀ w0 a a',aA w0 a→execOp a'.eval c8=execOp a.eval c8→Region.wanted c8 (yielded ops a'.tmps)=Region.wanted c8 (yielded ops a.tmps)→aA w0 a')
    (z3:∀ w0 aN a,lC D w0 aN→aA w0 a→aA aN a) (R:Nat→Bool) (qp:Array Bool)
    (hR:∀ j cK,ops[j]? =some cK→j≠i→(∀ e∈cK.after,Region.binds .any e=true→R e.on=true)→R j=true)
    (aS:(∀ w0 aN a,aA w0 a→aA aN a)∨∀ j,R j=true→3≤aL j→qp.getD j true=true):
    ∀ (f:Nat) (l:Array Bool) (a:Act) (w0:World),(∀ j,l.getD j false=true→R j=true)→(∀ j,qp.getD j true=true→l.getD j true=true)→
      (∀ j cK,ops[j]? =some cK→j≠i→l.getD j true=false→(∀ e∈cK.after,Region.binds .any e=true→e.on≠i)→c8.apart ops cK=true)→
      i∈Region.ready .any ops l→aA w0 a→Io D P ops Q aL f (l.setIfInBounds i true) (a.put c8.dst v) w0→Io D P ops Q aL (f+1) l a w0:=by
  intro f;induction f with
  | zero =>
    intro l a w0 _ _ _ hr bo H;refine ⟨λ h=>(by rw [h] at hr;cases hr),λ j aw=> ?_⟩;by_cases fi:j=i
    · subst fi;exact ⟨c8,ak, .inl ⟨aj,v,ky _ _ bo,H⟩⟩
    · have:=aOM aw fi
      rw [H.1] at this;cases this
  | succ f bu =>
    intro l a w0 wq wm wj hr bo H;refine ⟨λ h=>(by rw [h] at hr;cases hr),λ j aw=> ?_⟩;by_cases fi:j=i
    · subst fi;exact ⟨c8,ak, .inl ⟨aj,v,ky _ _ bo,H⟩⟩
    · obtain ⟨cK,hI,κ⟩:=H.2 j (aOM aw fi)
      obtain ⟨qj,ef,wy,ep⟩:=aPt.1 aw;obtain rfl:ef=cK:=by rw [hI] at wy;exact (aNf wy).symm
      have DN:∀ e∈ef.after,Region.binds .any e=true→e.on≠i:=λ e he af heq=>by
        have κ:=ep e he af;have aC:=(aPt.1 hr).1;rw [heq] at κ;rcases aOd i l.size with cp | cp
        · simp [cp] at aC κ;rw [aC] at κ;cases κ
        · simp [aNT cp] at κ
      have Ah:=wj j ef hI fi qj DN;obtain ⟨di,a2,a3⟩:=aP8 Ah;have DQ:∀ cs b,c8.op≠ .select cs b:=λ cs b=>j9 i c8 cs b ak;have rA:∀ cs b,ef.op≠ .select cs b:=λ cs b=>j9 j ef cs b hI;have keep:∀ aN a u,aA aN a→aA aN (a.put ef.dst u):=λ aN a u bo=>z2 _ _ _ bo (aO6 c8 DQ a ef.dst u a3) (aPh c8 a ef.dst u a3);have vZ:R j=true:=hR j ef hI fi λ e he af=>wq _ (ep e he af);have wu:∀ k,(l.setIfInBounds j true).getD k false=true→R k=true:=λ k aj=>by
        by_cases fL:j=k
        · rw [← fL];exact vZ
        · rw [aOD false fL] at aj;exact wq k aj
      have wo:∀ k,qp.getD k true=true→(l.setIfInBounds j true).getD k true=true:=λ k aj=>by
        by_cases fL:j=k
        · subst fL
          rcases aOd j l.size with cp | cp
          · simp [cp]
          · simp [aNT cp]
        · rw [aOD true fL];exact wm k aj
      have wk:∀ k ok,ops[k]? =some ok→k≠i→(l.setIfInBounds j true).getD k true=false→
          (∀ e∈ok.after,Region.binds .any e=true→e.on≠i)→c8.apart ops ok=true:=λ k ok aj lh wB ju=>by
        refine wj k ok aj lh ?_ ju;by_cases fL:j=k
        · subst fL;exact qj
        · rw [aOD true fL] at wB;exact wB
      have wz:=aOM hr (aPp fi);rcases κ with ⟨qk,u,I,hK⟩ | ⟨qk,κ⟩
      · refine ⟨ef,hI, .inl ⟨qk,u,I.of_same (aO6 ef rA a c8.dst v di).symm (aPh ef a c8.dst v di).symm, ?_⟩⟩
        refine bu _ _ _ wu wo wk wz (keep _ _ _ bo) ?_;rw [aN8 _ _ fi,← aOL a v u a2];exact hK
      · refine ⟨ef,hI, .inr ⟨qk,λ w hw=> ?_⟩⟩
        refine aOK (λ a' w' aq=>⟨aq.2.1, ?_⟩) (PR (aA:=aA w0) hI di a2 rA eJ (keep w0) (λ a d bo=>z2 _ _ _ bo Z Z) bo (κ w hw));have DV:aA w' a':=by
          rcases aOd (aL j) 3 with bB | Ak
          · exact z3 _ _ _ (aq.2.1 (by omega)) aq.1
          · rcases aS with aS | aS
            · exact aS _ _ _ aq.1
            · have:=wm j (aS j vZ Ak);rw [qj] at this;cases this
        refine bu _ _ _ wu wo wk wz DV ?_;rw [aN8 _ _ fi];exact aq.2.2
def Hj (D:Nat) (P:Program) (ops:Array Oper) (Q:Exit→Act→World→Prop) (aL:Nat→Nat):List Nat→Act→World→Prop
  | [],a,w0=>∀ w,Ext w0 w→Q .normal a w
  | i::r,a,w0=>∃ o,ops[i]? =some o∧
      ((aL i=0∧∃ v,tz D P ops w0 o v a∧Hj D P ops Q aL r (a.put o.dst v) w0)∨
       (aL i=1∧∃ v,Yields P ops o v a∧Hj D P ops Q aL r (a.put o.dst v) w0)∨
       (1<aL i∧∀ w,Ext w0 w→wpOp P ops Q i (λ a' w'=>(aL i=2→lC D w0 w')∧Hj D P ops Q aL r a' w') a w))
theorem Mm (hs:Region.noSelect ops=true) (eJ:∀ c a w,¬ Q (.panic c) a w):∀ (r:List Nat) (l:Array Bool) (a:Act) (w0:World),l.size=ops.size→hQ ops aL r l=true→Hj D P ops Q aL r a w0→Io D P ops Q aL r.length l a w0
  | [],l,a,w0,_,aS,h=>⟨by simpa [hQ] using aS,h⟩
  | i::r,l,a,w0,ay,aS,h=>by
    obtain ⟨o,bk,h⟩:=h;have j9:=aO7 hs;rcases h with ⟨aj,v,I,hK⟩ | ⟨aj,v,I,hK⟩ | ⟨aj,h⟩
    · simp only [hQ,aj,aNa] at aS
      obtain ⟨⟨⟨hf,hr⟩,af⟩,aS⟩:=aS;obtain ⟨R,r1,r2,sW⟩:=Iu ay af;exact aat bk (by omega) j9 eJ (λ w0 a=>tz D P ops w0 o v a) (λ _ _ h=>h) (λ _ _ _ h he hw=>h.of_same he hw) (λ _ _ _ hx h=>h.on hx) R l r1 (.inr sW) _ _ _ _ r2 (λ _ h=>h) (aOo bk hf) (by simpa using hr) I
        (Mm hs eJ r _ _ _ (by simpa using ay) aS hK)
    · simp only [hQ,aj,aNa] at aS
      obtain ⟨⟨hf,hr⟩,aS⟩:=aS;exact aat bk (by omega) j9 eJ (λ _ a=>Yields P ops o v a) (λ _ _ h=>Yields.ayk h) (λ _ _ _ h he hw=>h.of_same he hw) (λ _ _ _ _ h=>h) (λ _=>true) l (λ _ _ _ _ _=>Z) (.inl λ _ _ _ h=>h) _ _ _ _ (λ _ _=>Z) (λ _ h=>h) (aOo bk hf) (by simpa using hr) I
        (Mm hs eJ r _ _ _ (by simpa using ay) aS hK)
    · obtain ⟨k,lN⟩:∃ k,aL i=k+2:=⟨aL i - 2,by omega⟩
      simp only [hQ,lN,aNa,aNV] at aS;obtain ⟨hr,aS⟩:=aS;refine ⟨λ aC=>(by rw [hr] at aC;cases aC),λ j aw=> ?_⟩;rw [hr] at aw;obtain rfl:j=i:=by simpa using aw
      exact ⟨o,bk, .inr ⟨aj,λ w hw=>aOK (λ a' w' aq=>⟨aq.1,Mm hs eJ r _ _ _ (by simpa using ay) aS aq.2⟩) (h w hw)⟩⟩
theorem ayF {id:Nat} {a:Act} {w:World} (ba:List Nat) (hm:P.follows .mixedOrders=true) (aS:(Region.noSelect ops && (ba.length == ops.size) && hQ ops aL ba (Array.replicate ops.size false))=true)
    (h:Hj D P ops (eY (Q .normal)) aL ba a w):(Code.region id ops true).wp P Q a w:=by
  simp only [aNa,aNV] at aS;obtain ⟨⟨hs,ay⟩,aS⟩:=aS;refine aQL (aPe hm (Q:=eY (Q .normal)) ?_) (λ e a w I=>by cases e<;>first | exact I | exact I.elim);have:=Mm (P:=P) hs (Q:=eY (Q .normal)) (λ _ _ _ h=>h) ba (Array.replicate ops.size false) a w (by simp) aS h;rw [ay] at this;exact Fi _ _ _ _ this _ (aNH _ w).drew
end
section
variable {D:Nat} {P:Program} {n:Nat} {E cd:List (Nat×Value)} {a:Act} {w w' w0 aN:World} {Q:Exit→Act→World→Prop} {ops:Array Oper} {v:Value} {aL:Nat→Nat}
variable {d:Option Nat} {ty:TypeId} {pos:String} {aW:Array Edge} {g:Option (Nat×Bool)} {x y z:Operand} {t:TypeId} {rest:List Oper} {ba:List Nat} {i:Nat}
def Bh (D:Nat) (P:Program) (n:Nat) (ops:Array Oper) (Q:Exit→Act→World→Prop) (aL:Nat→Nat) (ba:List Nat) (E:List (Nat×Value)) (w0:World):Prop:=∀ a,c' n E a→Hj D P ops (eY (Q .normal)) aL ba a w0
theorem ap6 (h:∀ w,Ext w0 w→N n Q E w):Bh D P n ops Q aL [] E w0:=λ a ha w hw=>h w hw a ha
theorem aqb {d:Nat} (ak:ops[i]? =some ⟨some d,op,ty,pos,aW,none⟩) (aj:aL i=0) (hr:∀ w,lC D w0 w→cG P E ⟨some d,op,ty,pos,aW,none⟩ w v w) (hd:Nat.blt d n=true)
    (h:Bh D P n ops Q aL ba ((d,v)::E) w0):Bh D P n ops Q aL (i::ba) E w0:=λ a ha =>
  ⟨_,ak, .inl ⟨aj,v, .inl ⟨qP rfl,λ w hw=>by rw [hr w hw n a ha];exact ⟨rfl,rfl⟩⟩,h _ (ha.put hd v)⟩⟩
theorem z8 {d:Nat} (ak:ops[i]? =some ⟨some d,op,ty,pos,aW,none⟩) (aj:aL i=1) (hr:∀ w,cG P E ⟨some d,op,ty,pos,aW,none⟩ w v w) (hd:Nat.blt d n=true)
    (h:Bh D P n ops Q aL ba ((d,v)::E) w0):Bh D P n ops Q aL (i::ba) E w0:=λ a ha =>
  ⟨_,ak, .inr (.inl ⟨aj,v, .inl ⟨qP rfl,λ w=>hr w n a ha⟩,h _ (ha.put hd v)⟩)⟩
theorem Sm (aU:o.guard=none) (ak:ops[i]? =some o) (aj:aL i=2) (h:∀ w,Ext w0 w→Bo P n ops o E w λ cd w'=>lC D w0 w'∧Bh D P n ops Q aL ba cd w'):Bh D P n ops Q aL (i::ba) E w0:=λ a ha =>
  ⟨_,ak, .inr (.inr ⟨by omega,λ w hw=>Ew aU ak (h w hw) (λ cd w' a' aj oD=>⟨λ _=>aj.1,aj.2 a' oD⟩) ha⟩)⟩
end
end
section
variable {w w':World} {b D:Nat} {h:gP} {P:Program}
open Go.Proofs.YthlpmldmhakhaaaGreatDoor.qX
section
variable {T:bP} {s x:ByteArray} {r:List ByteArray}
theorem FI (aC:s=az [102,105,101,108,100]) (h:∀ x,r≠ [x]):T.done (s::r)=⟨10, [],T⟩:=by
 unfold bP.done;dsimp only;rw [aNd aC]
 match r,h with
 | [],_=>rfl
 | [x],h=>exact absurd rfl (h x)
 | _::_::_,_=>rfl
theorem RJ (aC:s=az [102,105,101,108,100]) (h:pC (sG x)≠0):T.done [s,x]=⟨pC (sG x), [],T⟩:=by
 unfold bP.done;dsimp only;rw [aNd aC];exact aNd h
theorem IK (aC:s=az [102,105,101,108,100]) (h:pC (sG x)=0):T.done [s,x]=⟨0, [],I5 (pE (sG x))⟩:=by
 unfold bP.done;dsimp only;rw [aNd aC];exact aM4 (by omega)
theorem tH (aC:¬ s=az [102,105,101,108,100]) (κ:s=az [98,97,115,101]):T.done (s::r)=jT T 3 r T.base:=by
 unfold bP.done;dsimp only;rw [aM4 aC,aNd κ]
theorem tI (aC:¬ s=az [102,105,101,108,100]) (κ:¬ s=az [98,97,115,101]) (τ:s=az [116,114,111,111,112]):T.done (s::r)=jT T 4 r T.xk:=by
 unfold bP.done;dsimp only;rw [aM4 aC,aM4 κ,aNd τ]
theorem zT (aC:¬ s=az [102,105,101,108,100]) (κ:¬ s=az [98,97,115,101]) (τ:¬ s=az [116,114,111,111,112]) (aq:ln s=true):T.done (s::r)=jT T (kI s) r λ l=>T.wait (oS s l):=by
 unfold bP.done;dsimp only;rw [aM4 aC,aM4 κ,aM4 τ,aNd aq]
theorem tJ (aC:¬ s=az [102,105,101,108,100]) (κ:¬ s=az [98,97,115,101]) (τ:¬ s=az [116,114,111,111,112]) (aq:¬ ln s=true) (bb:s=az [116,117,114,110]):T.done (s::r)=jT T 0 r λ _=>T.AK:=by
 unfold bP.done;dsimp only;rw [aM4 aC,aM4 κ,aM4 τ,aM4 aq,aNd bb]
theorem zU (aC:¬ s=az [102,105,101,108,100]) (κ:¬ s=az [98,97,115,101]) (τ:¬ s=az [116,114,111,111,112]) (aq:¬ ln s=true) (bb:¬ s=az [116,117,114,110]) (bV:s=az [116,114,111,111,112,115]):T.done (s::r)=jT T 0 r λ _=>⟨0,T.W.ah.map ux,T⟩:=by
 unfold bP.done;dsimp only;rw [aM4 aC,aM4 κ,aM4 τ,aM4 aq,aM4 bb,aNd bV]
theorem vU (aC:¬ s=az [102,105,101,108,100]) (κ:¬ s=az [98,97,115,101]) (τ:¬ s=az [116,114,111,111,112]) (aq:¬ ln s=true) (bb:¬ s=az [116,117,114,110]) (bV:¬ s=az [116,114,111,111,112,115]) (cy:s=az [115,116,111,99,107]):T.done (s::r)=jT T 1 r λ l=>if (T.W.bh.length:Int)≤l.getD 0 0 then ⟨7, [],T⟩ else ⟨0,eg [T.W.bh.getD (l.getD 0 0).toNat 0],T⟩:=by
 unfold bP.done;dsimp only;rw [aM4 aC,aM4 κ,aM4 τ,aM4 aq,aM4 bb,aM4 bV,aNd cy]
theorem vV (aC:¬ s=az [102,105,101,108,100]) (κ:¬ s=az [98,97,115,101]) (τ:¬ s=az [116,114,111,111,112]) (aq:¬ ln s=true) (bb:¬ s=az [116,117,114,110]) (bV:¬ s=az [116,114,111,111,112,115]) (cy:¬ s=az [115,116,111,99,107]) (ed:s=az [119,97,121]):T.done (s::r)=jT T 4 r T.way:=by
 unfold bP.done;dsimp only;rw [aM4 aC,aM4 κ,aM4 τ,aM4 aq,aM4 bb,aM4 bV,aM4 cy,aNd ed]
theorem vT (aC:¬ s=az [102,105,101,108,100]) (κ:¬ s=az [98,97,115,101]) (τ:¬ s=az [116,114,111,111,112]) (aq:¬ ln s=true) (bb:¬ s=az [116,117,114,110]) (bV:¬ s=az [116,114,111,111,112,115]) (cy:¬ s=az [115,116,111,99,107]) (ed:¬ s=az [119,97,121]) (fx:s=az [115,101,101,110]):T.done (s::r)=jT T 1 r λ l=>if ks T.W (l.getD 0 0)≠0 then ⟨ks T.W (l.getD 0 0), [],T⟩ else ⟨0,eg [((yc T.W (l.getD 0 0)).length:Int)],T⟩:=by
 unfold bP.done;dsimp only;rw [aM4 aC,aM4 κ,aM4 τ,aM4 aq,aM4 bb,aM4 bV,aM4 cy,aM4 ed,aNd fx]
theorem BB (aC:¬ s=az [102,105,101,108,100]) (κ:¬ s=az [98,97,115,101]) (τ:¬ s=az [116,114,111,111,112]) (aq:¬ ln s=true) (bb:¬ s=az [116,117,114,110]) (bV:¬ s=az [116,114,111,111,112,115]) (cy:¬ s=az [115,116,111,99,107]) (ed:¬ s=az [119,97,121]) (fx:¬ s=az [115,101,101,110]) (pk:s=az [110,111,119]):T.done (s::r)=jT T 0 r λ _=>⟨0,eg [T.W.now],T⟩:=by
 unfold bP.done;dsimp only;rw [aM4 aC,aM4 κ,aM4 τ,aM4 aq,aM4 bb,aM4 bV,aM4 cy,aM4 ed,aM4 fx,aNd pk]
theorem RL (aC:¬ s=az [102,105,101,108,100]) (κ:¬ s=az [98,97,115,101]) (τ:¬ s=az [116,114,111,111,112]) (aq:¬ ln s=true) (bb:¬ s=az [116,117,114,110]) (bV:¬ s=az [116,114,111,111,112,115]) (cy:¬ s=az [115,116,111,99,107]) (ed:¬ s=az [119,97,121]) (fx:¬ s=az [115,101,101,110]) (pk:¬ s=az [110,111,119]):T.done (s::r)=⟨10, [],T⟩:=by
 unfold bP.done;dsimp only;rw [aM4 aC,aM4 κ,aM4 τ,aM4 aq,aM4 bb,aM4 bV,aM4 cy,aM4 ed,aM4 fx,aM4 pk]
end
theorem atU {s:ByteArray} (h:s=az [104,105,116]):decide (s=az [104,105,116])=ln s:=by unfold ln;rw [aNp h];rfl
theorem atT {s:ByteArray} (κ:¬ s=az [104,105,116]) (h:s=az [103,111]):decide (s=az [103,111])=ln s:=by unfold ln;rw [aNu κ,aNp h];rfl
theorem atW {s:ByteArray} (κ:¬ s=az [104,105,116]) (τ:¬ s=az [103,111]) (h:s=az [109,105,110,101]):decide (s=az [109,105,110,101])=ln s:=by unfold ln;rw [aNu κ,aNu τ,aNp h];rfl
theorem atS {s:ByteArray} (κ:¬ s=az [104,105,116]) (τ:¬ s=az [103,111]) (aq:¬ s=az [109,105,110,101]) (h:s=az [100,114,111,112]):decide (s=az [100,114,111,112])=ln s:=by unfold ln;rw [aNu κ,aNu τ,aNu aq,aNp h];rfl
theorem atV {s:ByteArray} (κ:¬ s=az [104,105,116]) (τ:¬ s=az [103,111]) (aq:¬ s=az [109,105,110,101]) (bb:¬ s=az [100,114,111,112]):decide (s=az [109,97,107,101])=ln s:=by unfold ln;rw [aNu κ,aNu τ,aNu aq,aNu bb];rfl
theorem gQ.en {T:bP} (k:gQ w b h T):aO w b (ae.cells h.a T.W++ [.slice h.A T.L.length h.c]) 55 (0,0):=k.B
theorem gx.fresh {aN:World} {cp:gP} {T:bP} {P:Option Addr} (x:Ext w aN) (k:gQ w' b cp T) (bL:∀ q∈Φ.ab P,w.heap.size≤q) (hf:∀ q∈cp.cA,q∈Φ.ab P∨aN.heap.size≤q) (m:Mod [b] aN w'):gx w w' b h T :=
 ⟨cp,k,λ q I=> .inr ((hf q I).elim (bL q) λ j=>aNm x.size j),(Mod.aP x).trans (m.sub λ q I=>by rw [aMZ.1 I];exact aNo)⟩
theorem UN:∀ {n:Nat} {ws:List ByteArray} {l:List Int},ec n ws=some l→∀ x∈l,0≤x
 | 0,ws,l,h=>by
  unfold ec at h;split at h
  ·cases h;intro x hx;cases hx
  ·cases h
 | n+1,ws,l,h=>by
  unfold ec at h;split at h
  ·cases h
  ·rw [aOR] at h;obtain ⟨k,aj,rfl⟩:=h;intro x hx;rcases aNg.1 hx with rfl | hx
   ·exact aRx _
   ·exact UN aj x hx
theorem aAb {A:Option Addr} {c:Nat} {l:List a8} (h:a8.rep.aQ 56 w A c l) (ay:l.length≤100):q0 (l.map ux):=⟨by rw [aNI];omega,λ x hx=>by
 obtain ⟨t,aD,rfl⟩:=aNn.1 hx;obtain ⟨k,aj,e⟩:=aOO aD;exact aNm (VE (ZI h (k:=k) (by rw [aM3 aj,e]))) (by decide)⟩
theorem awI:(7:Int)≠0:=by decide
theorem af3 {s:ByteArray} (h:pC s=0):(pE s).a7=0:=by
 cases hc:((pD s).a7 != 0 || !decide (yq (pD s)=s)) with
 | true=>unfold pC at h;rw [aNd hc] at h;cases h
 | false =>
  rw [(af4 hc).1];rw [aNO] at hc;simpa using hc.1
theorem af6 (a b:UInt8):∀ (k:Nat) (s:List UInt8),(Lib.replaceK [a] [b] k s).length=s.length
 | 0,s=>rfl
 | k+1,s=>by
  unfold Lib.replaceK;split
  ·rfl
  ·rename_i h
   have hr:=Lib.index_room s [a] (by have:=Lib.index_ge s [a];have:¬ Lib.index s [a]= -1:=λ e=>h (by rw [e];rfl);omega);have aC:=Lib.index_ge s [a];have κ:¬ Lib.index s [a]= -1:=λ e=>h (by rw [e];rfl);simp only [aM6,aM9,af6 a b k,aNE,aM1,aM5] at hr ⊢;omega
theorem af7 (a b:UInt8) (s:List UInt8):(Lib.replaceAll s [a] [b]).length=s.length:=by
 unfold Lib.replaceAll Lib.replace;split
 ·rfl
 ·exact af6 a b _ s
theorem pd (l:List UInt8):(az l).size=l.length:=by unfold az;rw [aN3]
theorem apP {x:ByteArray}:(sG x).size=x.size+1:=by
 unfold sG;rw [aOF,pd,pd,af7,← aN3];rfl
theorem ayN (x:ByteArray) (w:World) (hx:x.size≤1048576) (ar:k7 w):Calls prog 43 #[.string x, .string (az [47]), .string (az [10])] w λ e w'=>e= .returned (.string (az (Lib.replaceAll x.data.toList [47] [10])))∧Ext w w':=by
 obtain ⟨m,hm⟩:=ar.m;have hc:=Lib.countB_mul_le (az [47]) (by decide) x.size x (aNk _);have aR:(az [47]).size=1:=rfl;have a1:(az [10]).size=1:=rfl;exact strings_ReplaceAll x (az [47]) (az [10]) m w (by omega) hm (by decide) (by rw [aR] at hc;rw [a1];omega)
theorem Mod.aw7 (x:Below D w w'):Mod ((List.range w.heap.size).filter λ k=>decide (D≤k)) w w' :=
 ⟨x.os,x.tape,x.output,x.size,λ k aj hn=>x.block k (by
  by_cases h:k<D
  ·exact h
  ·exact absurd (aOk.2 ⟨aND.2 aj,by simpa using h⟩) hn)⟩
theorem gQ.below {w0:World} {T:bP} (k:gQ w b h T) (x:Below D w w') (GF:gQ w0 b h T) (mT:w0.heap.size≤D):gQ w' b h T :=
 k.mod (Mod.aw7 x) λ q I=>by
  have I:=aNY (aOk.1 I).2;have:=GF.B.lt;exact ⟨by omega,λ hf=>by have:=(GF.lt q hf).2;omega⟩
theorem ayD {n:Nat} {E:List (Nat×Value)} {Q:Exit→Act→World→Prop} {ops:Array Oper} {id:Nat} (D:Nat) (hU:List (Nat×Nat)) (ba:List Nat) (hm:P.follows .mixedOrders=true) (aS:(Region.noSelect ops && (ba.length == ops.size) && hQ ops (j_ hU) ba (Array.replicate ops.size false))=true)
  (h:Bh D P n ops Q (j_ hU) ba E w):W P n (.region id ops true) Q E w:=λ a ha=>ayF ba hm aS (h a ha)
theorem Je {l:List Int} {i:Nat} (h:i<l.length):l.getD i 0∈l:=by rw [aM0,aM3 h];exact aOg h
theorem ap3 {f:av} (h:f.a7=0):dB f.wide∧dB f.high:=by
 obtain ⟨κ,τ,aq,bb,_⟩:=av.hg h;exact ⟨cI.2 (by omega),cI.2 (by omega)⟩
theorem Ev {E:List (Nat×Value)} {d:Option Nat} {ty:TypeId} {pos:String} {aW:Array Edge} {g:Option (Nat×Bool)} {x y:Operand} {t u:TypeId} {a b:ByteArray} (hx:ev E x=some (.string a)) (aH:ev E y=some (.string b)) (h:a.size+b.size≤9223372036854775807):
  cG P E ⟨d, .binOp .add t x y u,ty,pos,aW,g⟩ w (.string (a++b)) w:=λ n act ha=>by
 simp only [execOp,ha.ev hx,ha.ev aH,eqGuard,binOp_string_add,aNh,aNl,aNb];have hs:(Op.stringOp .add a b).run P w= .ok (.string (a++b)) w:=by first | exact aQE _ _ h | exact aQE P w a b h | exact aQE (P:=P) (w:=w) a b h
 simp [hs]
theorem anS (b aA:Nat) (h:gP) (T:bP) (A:Option Addr) (c:Nat) (ws:List ByteArray) (w:World) (aX:gQ w b h T) (tN:e_.aQ 16 w A c ws) (bB:∀ q∈Φ.ab A,q<w.heap.size) (hh:∀ x∈ws,x.size≤1048576) (ar:fu aA w) (sK:aA≤b):
  Calls prog 32 #[.pointer (a_ b), .slice A ws.length c] w (iL w b h T (T.done ws)):=by
 have uq:=aX.B.lt;have hS:=aX.W.S.has;have fh:=aX;have vY:=ar;refine cx (n:=122) func32 Z Z Z ?_;refine fa Z Z λ dk bx bm fQ ag=> ?_;have jd:=ag.lt;refine aT Z<|aI<|aF<| ?_;have hK:ki dk w.heap.size bx A c ws:=⟨ag,tN.keep bm,bB,by omega⟩;refine hD IN Z Z ((ZB w.heap.size bx _ _ ws _ hK).mono ?_);rintro e PA (⟨T6,rfl,xx⟩ | ⟨s,r,P8,dY,T6,rfl,oe,kH⟩)
 ·refine .inl ⟨_,Z, ?_⟩;have lz:=Ext.mod bm xx bF;refine dR<|dR<|gm<| ?_;subst T6;exact .inl ⟨by rw [show T.done []=⟨10, [],T⟩ from rfl];exact oX,by rw [show T.done []=⟨10, [],T⟩ from rfl],by rw [show T.done []=⟨10, [],T⟩ from rfl];exact gx.same fh lz⟩
 refine .inr ⟨_,Z, ?_⟩;have:=kH.size;have lz:=Ext.mod bm kH bF;subst T6;refine aT Z<|aK Z<|aJ<|bT<|aF<|aa (kj underlying9 Z Z)<|aT Z<| ?_;refine c1 Z (λ bK=> ?_) (λ bK=> ?_)
 ·simp only [aM8,aM7] at bK;refine aF<|hD IN Z Z ((ZB w.heap.size bx _ _ r _ oe).mono ?_);rintro e y4 (⟨T7,rfl,gw⟩ | ⟨x,r2,WS,YL,T7,rfl,HS,jP⟩)
  ·refine .inl ⟨_,Z, ?_⟩;have iz:=Ext.mod lz gw bF;refine dR<|kt<|dR<|gm<| ?_;subst T7;exact .inl ⟨by rw [FI bK (λ x e=>by cases e)];exact oX,by rw [FI bK (λ x e=>by cases e)],by rw [FI bK (λ x e=>by cases e)];exact gx.same fh iz⟩
  refine .inr ⟨_,Z, ?_⟩;have:=jP.size;have iz:=Ext.mod lz jP bF;subst T7;have aHc:=hh x (aNe _ aNo);refine aT Z<|aF<|aa (aB Z (HS.en.one FJ Z))<|aa (dr underlying57 Z)<|aa (beq Z Z)<|hD FK Z Z ((IJ (((((r2).length:Nat):Int))== 0) _).mono ?_);rintro e rW (⟨hc,rfl,jU⟩ | ⟨hc,rfl,eC⟩)
  ·refine .inl ⟨_,Z, ?_⟩;have hZ:=J iz jU;refine dR<|kt<|dR<|gm<| ?_;exact .inl ⟨by rw [FI bK (λ y e=>by cases e;simp at hc)];exact oX,by rw [FI bK (λ y e=>by cases e;simp at hc)],by rw [FI bK (λ y e=>by cases e;simp at hc)];exact gx.same fh hZ⟩
  refine .inr ⟨_,Z, ?_⟩;have:=eC.size;have hZ:=J iz eC;have acj:r2= []:=aNv (by simpa using hc);subst acj;refine aJ<|aK Z<| ?_;have ar:=(((ar.later bm).mod kH (λ q I=>by have:=I;simp only [aMZ] at this;omega)).mod jP (λ q I=>by have:=I;simp only [aMZ] at this;omega)).later eC;refine c0 aoX Z (ayN x _ (by omega) ar.dK) λ y6 jf=> ?_;have:=jf.size;have l4:=J hZ jf;refine aa (v:= .string (sG x)) (Ev Z Z (by rw [pd,af7,pd,← aN3];simp only [aM1,aM5];omega))<|ca aoY Z Z ((ayz (sG x) _ (by rw [apP];omega)).mono ?_);rintro e AQ ⟨akT,axs,rfl,H8,eL⟩;refine cF ?_;have:=eL.size;have jg:=J l4 eL;have VJ:=bZ H8.lt;refine vm Z<|b0 Z Z<|b0 Z Z<|dn RS Z λ Ct aEI f_ aIl HE=> ?_;have oa:=J jg f_;refine c9 Z Z HE Z gD Z Z λ V3 wW HE=> ?_;have xG:=Ext.mod oa wW bF;refine aT Z<|aK Z<|hD yk Z Z ((Bz (pC (sG x)) _).mono ?_);rintro e xt (⟨tS,rfl,ix⟩ | ⟨tS,rfl,r0⟩)
  ·refine .inl ⟨_,Z, ?_⟩;have nx:=J xG ix;refine dR<|kt<|dR<|gm<| ?_;exact .inl ⟨by rw [RJ bK tS];exact tS,by rw [RJ bK tS],by rw [RJ bK tS];exact gx.same fh nx⟩
  refine .inr ⟨_,Z, ?_⟩;have nx:=J xG r0;refine aJ<|aK Z<| ?_;have HE:=HE.later r0;refine aa (aB Z (HE.all hb gD))<| ?_;have aX:=(((((aX.later bm).mod kH (λ q I=>by have:=I;simp only [aMZ] at this;exact ⟨by omega,λ hf=>by have:=(fh.lt q hf).2;omega⟩)).mod jP (λ q I=>by have:=I;simp only [aMZ] at this;exact ⟨by omega,λ hf=>by have:=(fh.lt q hf).2;omega⟩)).later (J eC (J jf (J eL f_)))).mod wW (λ q I=>by have:=I;simp only [aMZ] at this;exact ⟨by omega,λ hf=>by have:=(fh.lt q hf).2;omega⟩)).later r0;have H8:=((H8.later f_).mod wW (bl VJ)).later r0;refine ca aaa Z Z ((aaH b _ _ _ _ _ _ _ _ _ _ (pE (sG x)) akT axs _ aX.B (H8.down (by omega)) (av.kr (af3 tS)) (ap3 (af3 tS))).mono ?_);rintro e EE ⟨rfl,fx,Ug,f8,m8⟩;refine cF ?_;refine aJ<|aF<|bH Z<|hq<|cU<|cZ Z Z<| ?_;exact .inr ⟨by rw [IK bK tS],none,0,by rw [IK bK tS];rfl,by rw [IK bK tS];exact Φ.aM.nil _,by rw [IK bK tS];exact aas,by rw [IK bK tS];exact gx.fresh nx Ug (λ q I=>by have:=(H8.lt q I).1;omega) f8 m8⟩
 ·simp only [aM8,aM7] at bK;refine aF<|aa (kj underlying9 Z Z)<|aT Z<| ?_;refine c1 Z (λ ck=> ?_) (λ ck=> ?_)
  ·simp only [aM8,aM7] at ck;refine aK Z<| ?_;have ar:=(ar.later bm).mod kH (λ q I=>by have:=I;simp only [aMZ] at this;omega);refine hD rh Z Z ((rO w.heap.size bx _ _ r 3 _ oe (ar.up (by omega)) (by decide)).mono ?_);rintro e uF (⟨sI,rfl,fq⟩ | ⟨aHO,aDi,aFn,sI,rfl,QP,ON⟩)
   ·refine .inl ⟨_,Z, ?_⟩;have jX:=Ext.mod lz fq bF;refine dR<|kt<|dR<|gm<| ?_;exact .inl ⟨by rw [tH bK ck,gG sI];exact oX,by rw [tH bK ck,gG sI],by rw [tH bK ck,gG sI];exact gx.same fh jX⟩
   refine .inr ⟨_,Z, ?_⟩;have:=ON.size;have jX:=Ext.mod lz ON bF;have asy:=xb sI;have asJ:=rC QP.has;have aX:=((aX.later bm).mod kH (λ q I=>by have:=I;simp only [aMZ] at this;exact ⟨by omega,λ hf=>by have:=(fh.lt q hf).2;omega⟩)).mod ON (λ q I=>by have:=I;simp only [aMZ] at this;exact ⟨by omega,λ hf=>by have:=(fh.lt q hf).2;omega⟩);have ar:=ar.mod ON (λ q I=>by have:=I;simp only [aMZ] at this;omega);refine hD aoZ Z Z ((alz b aA h T _ _ _ _ aX QP.has asy asJ ar (by omega) (λ q I hf=>by have:=(QP.lt q I).1;rcases aNg.1 hf with hf | hf;omega;have:=(fh.lt q hf).2;omega)).mono ?_);rintro e EG (⟨hr,rfl,kW⟩ | ⟨hr,vh,vP,rfl,vD,vX,kW⟩)
   ·refine .inl ⟨_,Z, ?_⟩;refine dR<|kt<|dR<|gm<| ?_;exact .inl ⟨by rw [tH bK ck,c_ sI];exact hr,by rw [tH bK ck,c_ sI],by rw [tH bK ck,c_ sI];exact kW.before jX⟩
   refine .inr ⟨_,Z, ?_⟩;refine bH Z<|hq<|cU<|cZ Z Z<| ?_;exact .inr ⟨by rw [tH bK ck,c_ sI];exact hr,vh,vP,by rw [tH bK ck,c_ sI];rfl,by rw [tH bK ck,c_ sI];exact vD.down (by omega),by rw [tH bK ck,c_ sI];exact vX,by rw [tH bK ck,c_ sI];exact kW.before jX⟩
  ·simp only [aM8,aM7] at ck;refine aF<|aa (kj underlying9 Z Z)<|aT Z<| ?_;refine c1 Z (λ cB=> ?_) (λ cB=> ?_)
   ·simp only [aM8,aM7] at cB;refine aK Z<| ?_;have ar:=(ar.later bm).mod kH (λ q I=>by have:=I;simp only [aMZ] at this;omega);refine hD rh Z Z ((rO w.heap.size bx _ _ r 4 _ oe (ar.up (by omega)) (by decide)).mono ?_);rintro e PJ (⟨sJ,rfl,iR⟩ | ⟨aHP,aDl,aFp,sJ,rfl,QQ,yQ⟩)
    ·refine .inl ⟨_,Z, ?_⟩;have u':=Ext.mod lz iR bF;refine dR<|kt<|dR<|gm<| ?_;exact .inl ⟨by rw [tI bK ck cB,gG sJ];exact oX,by rw [tI bK ck cB,gG sJ],by rw [tI bK ck cB,gG sJ];exact gx.same fh u'⟩
    refine .inr ⟨_,Z, ?_⟩;have:=yQ.size;have u':=Ext.mod lz yQ bF;have ab5:=xb sJ;have asK:=rC QQ.has;have aX:=((aX.later bm).mod kH (λ q I=>by have:=I;simp only [aMZ] at this;exact ⟨by omega,λ hf=>by have:=(fh.lt q hf).2;omega⟩)).mod yQ (λ q I=>by have:=I;simp only [aMZ] at this;exact ⟨by omega,λ hf=>by have:=(fh.lt q hf).2;omega⟩);have ar:=ar.mod yQ (λ q I=>by have:=I;simp only [aMZ] at this;omega);refine hD ao0 Z Z ((az7 b aA h T _ _ _ _ aX QQ.has ab5 asK ar (by omega) (λ q I hf=>by have:=(QQ.lt q I).1;rcases aNg.1 hf with hf | hf;omega;have:=(fh.lt q hf).2;omega)).mono ?_);rintro e V_ (⟨hr,rfl,kW⟩ | ⟨hr,vh,vP,rfl,vD,vX,kW⟩)
    ·refine .inl ⟨_,Z, ?_⟩;refine dR<|kt<|dR<|gm<| ?_;exact .inl ⟨by rw [tI bK ck cB,c_ sJ];exact hr,by rw [tI bK ck cB,c_ sJ],by rw [tI bK ck cB,c_ sJ];exact kW.before u'⟩
    refine .inr ⟨_,Z, ?_⟩;refine bH Z<|hq<|cU<|cZ Z Z<| ?_;exact .inr ⟨by rw [tI bK ck cB,c_ sJ];exact hr,vh,vP,by rw [tI bK ck cB,c_ sJ];rfl,by rw [tI bK ck cB,c_ sJ];exact vD.down (by omega),by rw [tI bK ck cB,c_ sJ];exact vX,by rw [tI bK ck cB,c_ sJ];exact kW.before u'⟩
   ·simp only [aM8,aM7] at cB;refine KK (λ cu aV=>∃ VU:Bool,cu= [(0, .pointer (a_ b)),(3, .pointer (a_ bx)),(4, .slice none 0 0),(5, .string s),(13, .string s),(43, .bool VU)]∧Ext w aV∧gQ aV b h T∧fu aA aV∧ki aV w.heap.size bx P8 dY r∧(VU=ln s)) ?_ ?_
    ·refine aF<|aa (kj underlying9 Z Z)<|aT Z<| ?_;refine c1 Z (λ BP=> ?_) (λ BP=> ?_)
     ·simp only [aM8,aM7] at BP;refine fZ<| ?_;have aX:=(aX.later bm).mod kH (λ q I=>by have:=I;simp only [aMZ] at this;exact ⟨by omega,λ hf=>by have:=(fh.lt q hf).2;omega⟩);have ar:=(ar.later bm).mod kH (λ q I=>by have:=I;simp only [aMZ] at this;omega);exact my _ ⟨decide (s=az [104,105,116]),Z,lz,aX,ar,oe,atU BP⟩ (ih Z)
     ·simp only [aM8,aM7] at BP;refine aF<|aa (kj underlying9 Z Z)<|aT Z<| ?_;refine c1 Z (λ Dx=> ?_) (λ Dx=> ?_)
      ·simp only [aM8,aM7] at Dx;refine fZ<| ?_;have aX:=(aX.later bm).mod kH (λ q I=>by have:=I;simp only [aMZ] at this;exact ⟨by omega,λ hf=>by have:=(fh.lt q hf).2;omega⟩);have ar:=(ar.later bm).mod kH (λ q I=>by have:=I;simp only [aMZ] at this;omega);exact my _ ⟨decide (s=az [103,111]),Z,lz,aX,ar,oe,atT BP Dx⟩ (ih Z)
      ·simp only [aM8,aM7] at Dx;refine aF<|aa (kj underlying9 Z Z)<|aT Z<| ?_;refine c1 Z (λ Gd=> ?_) (λ Gd=> ?_)
       ·simp only [aM8,aM7] at Gd;refine fZ<| ?_;have aX:=(aX.later bm).mod kH (λ q I=>by have:=I;simp only [aMZ] at this;exact ⟨by omega,λ hf=>by have:=(fh.lt q hf).2;omega⟩);have ar:=(ar.later bm).mod kH (λ q I=>by have:=I;simp only [aMZ] at this;omega);exact my _ ⟨decide (s=az [109,105,110,101]),Z,lz,aX,ar,oe,atW BP Dx Gd⟩ (ih Z)
       ·simp only [aM8,aM7] at Gd;refine aF<|aa (kj underlying9 Z Z)<|aT Z<| ?_;refine c1 Z (λ Jq=> ?_) (λ Jq=> ?_)
        ·simp only [aM8,aM7] at Jq;refine fZ<| ?_;have aX:=(aX.later bm).mod kH (λ q I=>by have:=I;simp only [aMZ] at this;exact ⟨by omega,λ hf=>by have:=(fh.lt q hf).2;omega⟩);have ar:=(ar.later bm).mod kH (λ q I=>by have:=I;simp only [aMZ] at this;omega);exact my _ ⟨decide (s=az [100,114,111,112]),Z,lz,aX,ar,oe,atS BP Dx Gd Jq⟩ (ih Z)
        ·simp only [aM8,aM7] at Jq;refine rg<|aa (kj underlying9 Z Z)<|va Z<|nl<| ?_;have aX:=(aX.later bm).mod kH (λ q I=>by have:=I;simp only [aMZ] at this;exact ⟨by omega,λ hf=>by have:=(fh.lt q hf).2;omega⟩);have ar:=(ar.later bm).mod kH (λ q I=>by have:=I;simp only [aMZ] at this;omega);exact my _ ⟨decide (s=az [109,97,107,101]),Z,lz,aX,ar,oe,atV BP Dx Gd Jq⟩ (ih Z)
    rintro aDV EI ⟨VU,rfl,jY,aX,ar,oe,acr⟩;have:=jY.size;refine c1 Z (λ Tg=> ?_) (λ Tg=> ?_)
    ·have c7:ln s=true:=by rw [← acr];exact Tg
     refine aK Z<|vm Z<|hD ao1 Z Z ((axf b bx aA h T s _ _ r w _ jY fh oe ar (by omega) (by omega)).mono ?_);rintro e ahx (⟨hr,rfl,kW⟩ | ⟨hr,vh,vP,rfl,vD,vX,kW⟩)
     ·refine .inl ⟨_,Z, ?_⟩;refine dR<|kt<|dR<|gm<| ?_;exact .inl ⟨by rw [zT bK ck cB c7];exact hr,by rw [zT bK ck cB c7],by rw [zT bK ck cB c7];exact kW⟩
     refine .inr ⟨_,Z, ?_⟩;refine bH Z<|hq<|cU<|cZ Z Z<| ?_;exact .inr ⟨by rw [zT bK ck cB c7];exact hr,vh,vP,by rw [zT bK ck cB c7];rfl,by rw [zT bK ck cB c7];exact vD.down (by omega),by rw [zT bK ck cB c7];exact vX,by rw [zT bK ck cB c7];exact kW⟩
    ·have c7:¬ ln s=true:=by rw [← acr];exact (by rw [Tg];decide)
     refine aF<|aa (kj underlying9 Z Z)<|aT Z<| ?_;refine c1 Z (λ du=> ?_) (λ du=> ?_)
     ·simp only [aM8,aM7] at du;refine aF<|hD rh Z Z ((rO w.heap.size bx _ _ r 0 _ oe (ar.up (by omega)) (by decide)).mono ?_);rintro e PO (⟨tO,rfl,jH⟩ | ⟨aHQ,aDn,aFr,tO,rfl,aD4,nT⟩)
      ·refine .inl ⟨_,Z, ?_⟩;have vg:=Ext.mod jY jH bF;refine dR<|kt<|dR<|gm<| ?_;exact .inl ⟨by rw [tJ bK ck cB c7 du,gG tO];exact oX,by rw [tJ bK ck cB c7 du,gG tO],by rw [tJ bK ck cB c7 du,gG tO];exact gx.same fh vg⟩
      refine .inr ⟨_,Z, ?_⟩;have:=nT.size;have vg:=Ext.mod jY nT bF;refine aJ<|aK Z<| ?_;have aX:=aX.mod nT (λ q I=>by have:=I;simp only [aMZ] at this;exact ⟨by omega,λ hf=>by have:=(fh.lt q hf).2;omega⟩);have ar:=ar.mod nT (λ q I=>by have:=I;simp only [aMZ] at this;omega);refine hD ao2 Z Z ((aoc b aA h T _ aX ar (by omega)).mono ?_);rintro e ahB (⟨hr,rfl,kW⟩ | ⟨hr,vh,vP,rfl,vD,vX,kW⟩)
      ·refine .inl ⟨_,Z, ?_⟩;refine dR<|kt<|dR<|gm<| ?_;exact .inl ⟨by rw [tJ bK ck cB c7 du,c_ tO];exact hr,by rw [tJ bK ck cB c7 du,c_ tO],by rw [tJ bK ck cB c7 du,c_ tO];exact kW.before vg⟩
      refine .inr ⟨_,Z, ?_⟩;refine bH Z<|hq<|cU<|cZ Z Z<| ?_;exact .inr ⟨by rw [tJ bK ck cB c7 du,c_ tO];exact hr,vh,vP,by rw [tJ bK ck cB c7 du,c_ tO];rfl,by rw [tJ bK ck cB c7 du,c_ tO];exact vD.down (by omega),by rw [tJ bK ck cB c7 du,c_ tO];exact vX,by rw [tJ bK ck cB c7 du,c_ tO];exact kW.before vg⟩
     ·simp only [aM8,aM7] at du;refine aF<|aa (kj underlying9 Z Z)<|aT Z<| ?_;refine c1 Z (λ ee=> ?_) (λ ee=> ?_)
      ·simp only [aM8,aM7] at ee;refine aF<|hD rh Z Z ((rO w.heap.size bx _ _ r 0 _ oe (ar.up (by omega)) (by decide)).mono ?_);rintro e aAO (⟨Ab,rfl,aBL⟩ | ⟨aHL,aC9,aFa,Ab,rfl,aD2,ub⟩)
       ·refine .inl ⟨_,Z, ?_⟩;have Lm:=Ext.mod jY aBL bF;refine dR<|kt<|dR<|gm<| ?_;exact .inl ⟨by rw [zU bK ck cB c7 du ee,gG Ab];exact oX,by rw [zU bK ck cB c7 du ee,gG Ab],by rw [zU bK ck cB c7 du ee,gG Ab];exact gx.same fh Lm⟩
       refine .inr ⟨_,Z, ?_⟩;have:=ub.size;have Lm:=Ext.mod jY ub bF;refine aJ<|aK Z<| ?_;have aX:=aX.mod ub (λ q I=>by have:=I;simp only [aMZ] at this;exact ⟨by omega,λ hf=>by have:=(fh.lt q hf).2;omega⟩);have ar:=ar.mod ub (λ q I=>by have:=I;simp only [aMZ] at this;omega);refine ca ao3 Z Z ((aob b aA h T _ aX ar (by omega)).mono ?_);rintro e VZ ⟨P8,dY,rfl,aj9,aBM⟩;refine cF ?_;have EV:=J Lm aBM;refine bH Z<|hq<|cU<|cZ Z Z<| ?_;exact .inr ⟨by rw [zU bK ck cB c7 du ee,c_ Ab],P8,dY,by rw [zU bK ck cB c7 du ee,c_ Ab];rfl,by rw [zU bK ck cB c7 du ee,c_ Ab];exact aj9.down (by omega),by rw [zU bK ck cB c7 du ee,c_ Ab];exact aAb fh.W.T.has fh.cC.dD,by rw [zU bK ck cB c7 du ee,c_ Ab];exact gx.same fh EV⟩
      ·simp only [aM8,aM7] at ee;refine aF<|aa (kj underlying9 Z Z)<|aT Z<| ?_;refine c1 Z (λ eE=> ?_) (λ eE=> ?_)
       ·simp only [aM8,aM7] at eE;refine aF<|hD rh Z Z ((rO w.heap.size bx _ _ r 1 _ oe (ar.up (by omega)) (by decide)).mono ?_);rintro e V0 (⟨qc,rfl,mG⟩ | ⟨nR,aDa,aFb,qc,rfl,X0,wM⟩)
        ·refine .inl ⟨_,Z, ?_⟩;have xF:=Ext.mod jY mG bF;refine dR<|kt<|dR<|gm<| ?_;exact .inl ⟨by rw [vU bK ck cB c7 du ee eE,gG qc];exact oX,by rw [vU bK ck cB c7 du ee eE,gG qc],by rw [vU bK ck cB c7 du ee eE,gG qc];exact gx.same fh xF⟩
        refine .inr ⟨_,Z, ?_⟩;have:=wM.size;have xF:=Ext.mod jY wM bF;have aGP:=xb qc;refine aa (bX 0 underlying46 cr Z Z (X0.has.bw (aZ 0)) Z (by omega))<|aa (aB Z (Φ.aQ.dj dA (X0.has.cg (aZ 0)) (cj (l:=nR) (u:=0) (j:=0) (by omega)) Z a6))<|aT Z<|aI<|aK Z<|vm Z<|aa (b3 Z)<|aa (au rf Z)<|aa (au tL Z)<| ?_;have aX:=aX.mod wM (λ q I=>by have:=I;simp only [aMZ] at this;exact ⟨by omega,λ hf=>by have:=(fh.lt q hf).2;omega⟩);refine aa (aB Z (aX.en.one fI Z))<|aa (dr underlying46 Z)<|aa (ld Z Z)<|aJ<| ?_;refine Dc Z (λ SZ=> ?_) (λ SZ=> ?_)
        ·have mj:=UN qc _ (Je (l:=nR) (i:=0) (by omega));refine rg<|Fs yk Z ((RB 7 _ (by decide)).mono ?_);rintro e PC ⟨rfl,n7⟩;refine cF ?_;have CG:=J xF n7;refine dR<|kt<|dR<|gm<| ?_;exact .inl ⟨by rw [vU bK ck cB c7 du ee eE,c_ qc,aNd (show (T.W.bh.length:Int)≤nR.getD 0 0 by omega)];exact awI,by rw [vU bK ck cB c7 du ee eE,c_ qc,aNd (show (T.W.bh.length:Int)≤nR.getD 0 0 by omega)],by rw [vU bK ck cB c7 du ee eE,c_ qc,aNd (show (T.W.bh.length:Int)≤nR.getD 0 0 by omega)];exact gx.same fh CG⟩
        ·have mj:=UN qc _ (Je (l:=nR) (i:=0) (by omega));refine bE<|aK Z<|aa (b3 Z)<|aa (au rf Z)<|aa (au tL Z)<|aa (aB Z (aX.en.one fI Z))<|vm Z<|aa (bX ((nR.getD 0 0).toNat) underlying46 cr Z Z ((hS.keep xF).bw (aZ ((nR.getD 0 0).toNat))) (by omega) (by omega))<|aa (aB Z (Φ.aQ.dj dA ((hS.keep xF).cg (aZ ((nR.getD 0 0).toNat))) (cj (l:=T.W.bh) (u:=0) (by omega)) Z a6))<|b_ (e:= 3) (cs:= [γ (T.W.bh.getD ((nR.getD 0 0).toNat) 0)]) Z (λ _=>by kernel_rfl) Z λ aAT aEv xz aH3 ai2=> ?_;have:=xz.size;have Wv:=J xF xz;have ar:=(ar.mod wM (λ q I=>by have:=I;simp only [aMZ] at this;omega)).later xz;refine ca ym Z Z ((yZ _ _ ([T.W.bh.getD ((nR.getD 0 0).toNat) 0]) _ _ (aO.Ai (R:=bz) (by_:=8) (k:= [T.W.bh.getD ((nR.getD 0 0).toNat) 0]) ai2 [[γ (T.W.bh.getD ((nR.getD 0 0).toNat) 0)]] Z (⟨⟨Z,rC hS _ (Je (by omega))⟩,trivial⟩) (by simp) (by simp)) (λ x hx=>by rw [aMZ.1 hx];exact rC hS _ (Je (by omega))) (by simp) ar (by omega)).mono ?_);rintro e aAV ⟨ah8,alU,rfl,akd,qQ⟩;refine cF ?_;have Wx:=J Wv qQ;refine bH Z<|hq<|cU<|cZ Z Z<| ?_;exact .inr ⟨by rw [vU bK ck cB c7 du ee eE,c_ qc,aM4 (show ¬ (T.W.bh.length:Int)≤nR.getD 0 0 by omega)],ah8,alU,by rw [vU bK ck cB c7 du ee eE,c_ qc,aM4 (show ¬ (T.W.bh.length:Int)≤nR.getD 0 0 by omega)];rfl,by rw [vU bK ck cB c7 du ee eE,c_ qc,aM4 (show ¬ (T.W.bh.length:Int)≤nR.getD 0 0 by omega)];exact akd.down (by omega),by rw [vU bK ck cB c7 du ee eE,c_ qc,aM4 (show ¬ (T.W.bh.length:Int)≤nR.getD 0 0 by omega)];exact BF (λ x hx=>by rw [aMZ.1 hx];exact rC hS _ (Je (by omega))) (by simp),by rw [vU bK ck cB c7 du ee eE,c_ qc,aM4 (show ¬ (T.W.bh.length:Int)≤nR.getD 0 0 by omega)];exact gx.same fh Wx⟩
       ·simp only [aM8,aM7] at eE;refine aF<|aa (kj underlying9 Z Z)<|aT Z<| ?_;refine c1 Z (λ gV=> ?_) (λ gV=> ?_)
        ·simp only [aM8,aM7] at gV;refine aK Z<|hD rh Z Z ((rO w.heap.size bx _ _ r 4 _ oe (ar.up (by omega)) (by decide)).mono ?_);rintro e aLP (⟨sH,rfl,aBN⟩ | ⟨aHM,aDb,aFc,sH,rfl,akb,OG⟩)
         ·refine .inl ⟨_,Z, ?_⟩;have P5:=Ext.mod jY aBN bF;refine dR<|kt<|dR<|gm<| ?_;exact .inl ⟨by rw [vV bK ck cB c7 du ee eE gV,gG sH];exact oX,by rw [vV bK ck cB c7 du ee eE gV,gG sH],by rw [vV bK ck cB c7 du ee eE gV,gG sH];exact gx.same fh P5⟩
         refine .inr ⟨_,Z, ?_⟩;have:=OG.size;have P5:=Ext.mod jY OG bF;have asw:=xb sH;have aX:=aX.mod OG (λ q I=>by have:=I;simp only [aMZ] at this;exact ⟨by omega,λ hf=>by have:=(fh.lt q hf).2;omega⟩);have ar:=ar.mod OG (λ q I=>by have:=I;simp only [aMZ] at this;omega);refine hD ao4 Z Z ((aBh b aA h T _ _ _ _ aX akb.has asw ar (by omega)).mono ?_);rintro e V1 (⟨hr,rfl,kW⟩ | ⟨hr,vh,vP,rfl,vD,vX,kW⟩)
         ·refine .inl ⟨_,Z, ?_⟩;refine dR<|kt<|dR<|gm<| ?_;exact .inl ⟨by rw [vV bK ck cB c7 du ee eE gV,c_ sH];exact hr,by rw [vV bK ck cB c7 du ee eE gV,c_ sH],by rw [vV bK ck cB c7 du ee eE gV,c_ sH];exact kW.before P5⟩
         refine .inr ⟨_,Z, ?_⟩;refine bH Z<|hq<|cU<|cZ Z Z<| ?_;exact .inr ⟨by rw [vV bK ck cB c7 du ee eE gV,c_ sH];exact hr,vh,vP,by rw [vV bK ck cB c7 du ee eE gV,c_ sH];rfl,by rw [vV bK ck cB c7 du ee eE gV,c_ sH];exact vD.down (by omega),by rw [vV bK ck cB c7 du ee eE gV,c_ sH];exact vX,by rw [vV bK ck cB c7 du ee eE gV,c_ sH];exact kW.before P5⟩
        ·simp only [aM8,aM7] at gV;refine aF<|aa (kj underlying9 Z Z)<|aT Z<| ?_;refine c1 Z (λ ko=> ?_) (λ ko=> ?_)
         ·simp only [aM8,aM7] at ko;refine aI<| ?_;cases mU:ec 1 r with
          | none =>
           refine ayx (c:=4) (ch:=n2 10) (R:=λ xo=>Mod [bx] EI xo) [0,1,2,3] (by kernel_rfl) Z rh (by kernel_rfl) (λ Cs jC=>(rO w.heap.size bx _ _ r 1 Cs (oe.later jC) ((ar.later jC).up (by omega)) (by decide)).mono λ e xo GG=>by rcases GG with ⟨_,dv,ey⟩ | ⟨_,_,_,dv,_⟩;exact ⟨dv,(Mod.aP jC).trans ey⟩;rw [mU] at dv;cases dv) ?_ ?_
           ·intro aDx xo m9;have z9:=Ext.mod jY m9 bF;refine dR<|kt<|dR<|gm<| ?_;exact .inl ⟨by rw [vT bK ck cB c7 du ee eE gV ko,gG mU];exact oX,by rw [vT bK ck cB c7 du ee eE gV ko,gG mU],by rw [vT bK ck cB c7 du ee eE gV ko,gG mU];exact gx.same fh z9⟩
           ·exact O' Z Z Z (λ _ x=>jA Z)<|O' Z Z Z (λ _ x=>b3 Z)<|O' Z Z Z (λ _ x=>au rf Z)<|O' Z Z Z (λ _ x=>aB Z ((aX.later x).en.par [γ T.W.field.wide,γ T.W.field.high, .slice h.a.P T.W.field.places.length h.a.p, .slice h.a.B T.W.bj.length h.a.b, .slice h.a.S T.W.bh.length h.a.s, .slice h.a.M T.W.bY.length h.a.m, .slice h.a.T T.W.ah.length h.a.t,γ T.W.next,γ T.W.now] fg cQ Z))<|ayv Z
          | some l =>
           have aGX:=xb mU;refine ayD w.heap.size [(3,0),(4,2),(6,2),(7,2)] [0,1,2,3,4,5,6,7,8,9,10,11,12] (by kernel_rfl) (by kernel_rfl) ?_;refine z8 Z Z (λ _=>jA Z) Z<|z8 Z Z (λ _=>b3 Z) Z<|z8 Z Z (λ _=>au rf Z) Z<|aqb (v:= .agg #[γ T.W.field.wide,γ T.W.field.high, .slice h.a.P T.W.field.places.length h.a.p, .slice h.a.B T.W.bj.length h.a.b, .slice h.a.S T.W.bh.length h.a.s, .slice h.a.M T.W.bY.length h.a.m, .slice h.a.T T.W.ah.length h.a.t,γ T.W.next,γ T.W.now]) Z Z (λ _ x=>aB Z ((aX.below (x.2 (by omega)) fh (aNk _)).en.par [γ T.W.field.wide,γ T.W.field.high, .slice h.a.P T.W.field.places.length h.a.p, .slice h.a.B T.W.bj.length h.a.b, .slice h.a.S T.W.bh.length h.a.s, .slice h.a.M T.W.bY.length h.a.m, .slice h.a.T T.W.ah.length h.a.t,γ T.W.next,γ T.W.now] fg cQ Z)) Z<| ?_;refine Sm Z Z Z λ Cs jC Q NQ=>ca rh Z Z ((rO w.heap.size bx _ _ r 1 Cs (oe.later jC) ((ar.later jC).up (by omega)) (by decide)).mono ?_);rintro e xo (⟨dv,_⟩ | ⟨qt,CL,dX,dv,rfl,XZ,m7⟩)
           ·rw [mU] at dv;cases dv
           have zW:qt=l:=by rw [mU] at dv;cases dv;rfl
           subst zW;have jd:=jC.size;refine ⟨_,Z,NQ _ _ ⟨lC.md jC m7 (λ q I=>by rw [aMZ.1 I];omega), ?_⟩⟩;have np:Ext w xo:=Ext.mod (J jY jC) m7 (λ q I=>by rw [aMZ.1 I];omega);refine z8 (v:= .pointer (some ⟨et CL,jR CL+0 * 1,none⟩)) Z Z (λ _=>bX 0 underlying46 cr Z Z (XZ.has.bw (by omega)) Z (by omega)) Z<|Sm Z Z Z λ qL kc Q aqR=>aa (v:=γ (qt.getD 0 0)) (aB Z (Φ.aQ.dj dA ((XZ.later kc).has.cg (by omega)) (cj (l:=qt) (u:=0) (j:=0) (by omega)) Z a6))<|aqR _ _ ⟨lC.of kc, ?_⟩;refine Sm Z Z Z λ w3 iq Q aqQ=>ca ao5 Z Z ((amY h.a T.W (qt.getD 0 0) _ (fh.W.has.keep (J np (J kc iq)))).mono ?_);rintro e cb ⟨aDj,dy,rfl,QO,fU⟩;refine ⟨_,Z,aqQ _ _ ⟨lC.of (J iq fU), ?_⟩⟩;refine z8 Z Z (λ _=>jA Z) Z<|z8 Z Z (λ _=>ex Z Z) Z<|z8 Z Z (λ _=>ex Z Z) Z<|z8 Z Z (λ _=>eV Z) Z<|z8 Z Z (λ _=>eV Z) Z<|ap6 λ n5 nn=> ?_;have z4:=J np (J kc (J iq (J fU nn)));have:=z4.size;have aX:=fh.later z4;have ar:=vY.later z4;refine br<|aK Z<|hD yk Z Z ((Bz (ks T.W (qt.getD 0 0)) _).mono ?_);rintro e ahm (⟨hc,rfl,kM⟩ | ⟨hc,rfl,Wk⟩)
           ·refine .inl ⟨_,Z, ?_⟩;have EW:=J z4 kM;refine dR<|kt<|dR<|gm<| ?_;exact .inl ⟨by rw [vT bK ck cB c7 du ee eE gV ko,c_ mU,aNd hc];exact hc,by rw [vT bK ck cB c7 du ee eE gV ko,c_ mU,aNd hc],by rw [vT bK ck cB c7 du ee eE gV ko,c_ mU,aNd hc];exact gx.same fh EW⟩
           refine .inr ⟨_,Z, ?_⟩;have:=Wk.size;have EW:=J z4 Wk;refine aJ<|aK Z<|aa (dr underlying49 Z)<|b_ (e:= 3) (cs:= [γ ((((yc T.W (qt.getD 0 0)).length:Nat):Int))]) Z (λ _=>by kernel_rfl) Z λ aLV aEA Wl aIa ai4=> ?_;have:=Wl.size;have aCk:=J EW Wl;have ar:=ar.later (J Wk Wl);refine ca ym Z Z ((yZ _ _ ([(((yc T.W (qt.getD 0 0)).length:Nat):Int)]) _ _ (aO.Ai (R:=bz) (by_:=8) (k:= [(((yc T.W (qt.getD 0 0)).length:Nat):Int)]) ai4 [[γ ((((yc T.W (qt.getD 0 0)).length:Nat):Int))]] Z (⟨⟨Z,cI.2 (by have:=QO.has.kr;omega)⟩,trivial⟩) (by simp) (by simp)) (λ x hx=>by rw [aMZ.1 hx];exact cI.2 (by have:=QO.has.kr;omega)) (by simp) ar (by omega)).mono ?_);rintro e aL1 ⟨aia,alW,rfl,akf,aBO⟩;refine cF ?_;have aCq:=J aCk aBO;refine bH Z<|hq<|cU<|cZ Z Z<| ?_;exact .inr ⟨by rw [vT bK ck cB c7 du ee eE gV ko,c_ mU,aM4 (by omega)],aia,alW,by rw [vT bK ck cB c7 du ee eE gV ko,c_ mU,aM4 (by omega)];rfl,by rw [vT bK ck cB c7 du ee eE gV ko,c_ mU,aM4 (by omega)];exact akf.down (by omega),by rw [vT bK ck cB c7 du ee eE gV ko,c_ mU,aM4 (by omega)];exact BF (λ x hx=>by rw [aMZ.1 hx];exact cI.2 (by have:=QO.has.kr;omega)) (by simp),by rw [vT bK ck cB c7 du ee eE gV ko,c_ mU,aM4 (by omega)];exact gx.same fh aCq⟩
         ·simp only [aM8,aM7] at ko;refine aF<|aa (kj underlying9 Z Z)<|aT Z<| ?_;refine c1 Z (λ rr=> ?_) (λ rr=> ?_)
          ·simp only [aM8,aM7] at rr;refine aF<|hD rh Z Z ((rO w.heap.size bx _ _ r 0 _ oe (ar.up (by omega)) (by decide)).mono ?_);rintro e aA3 (⟨Ac,rfl,aBP⟩ | ⟨aHN,aDc,aFd,Ac,rfl,aD3,OJ⟩)
           ·refine .inl ⟨_,Z, ?_⟩;have Hu:=Ext.mod jY aBP bF;refine dR<|kt<|dR<|gm<| ?_;exact .inl ⟨by rw [BB bK ck cB c7 du ee eE gV ko rr,gG Ac];exact oX,by rw [BB bK ck cB c7 du ee eE gV ko rr,gG Ac],by rw [BB bK ck cB c7 du ee eE gV ko rr,gG Ac];exact gx.same fh Hu⟩
           refine .inr ⟨_,Z, ?_⟩;have:=OJ.size;have Hu:=Ext.mod jY OJ bF;refine aJ<|aK Z<|aa (b3 Z)<|aa (au rf Z)<|aa (au IQ Z)<| ?_;have aX:=aX.mod OJ (λ q I=>by have:=I;simp only [aMZ] at this;exact ⟨by omega,λ hf=>by have:=(fh.lt q hf).2;omega⟩);refine aa (aB Z (aX.en.one a6 Z))<|b_ (e:= 3) (cs:= [γ T.W.now]) Z (λ _=>by kernel_rfl) Z λ aL3 aED Wm aIe ai6=> ?_;have:=Wm.size;have aCs:=J Hu Wm;have ar:=(ar.mod OJ (λ q I=>by have:=I;simp only [aMZ] at this;omega)).later Wm;refine ca ym Z Z ((yZ _ _ ([T.W.now]) _ _ (aO.Ai (R:=bz) (by_:=8) (k:= [T.W.now]) ai6 [[γ T.W.now]] Z (⟨⟨Z,fh.W.nums.2.2.2⟩,trivial⟩) (by simp) (by simp)) (λ x hx=>by rw [aMZ.1 hx];exact fh.W.nums.2.2.2) (by simp) ar (by omega)).mono ?_);rintro e aA5 ⟨aie,al0,rfl,akg,aBQ⟩;refine cF ?_;have WH:=J aCs aBQ;refine bH Z<|hq<|cU<|cZ Z Z<| ?_;exact .inr ⟨by rw [BB bK ck cB c7 du ee eE gV ko rr,c_ Ac],aie,al0,by rw [BB bK ck cB c7 du ee eE gV ko rr,c_ Ac];rfl,by rw [BB bK ck cB c7 du ee eE gV ko rr,c_ Ac];exact akg.down (by omega),by rw [BB bK ck cB c7 du ee eE gV ko rr,c_ Ac];exact BF (λ x hx=>by rw [aMZ.1 hx];exact fh.W.nums.2.2.2) (by simp),by rw [BB bK ck cB c7 du ee eE gV ko rr,c_ Ac];exact gx.same fh WH⟩
          ·simp only [aM8,aM7] at rr;refine fZ<|cl<|br<|rg<|aa (v:= .agg #[γ 10]) (hC Z)<|aa (GR (λ w=>by kernel_rfl) Z)<|afC Z<|gm<| ?_;exact .inl ⟨by rw [RL bK ck cB c7 du ee eE gV ko rr];exact oX,by rw [RL bK ck cB c7 du ee eE gV ko rr];rfl,by rw [RL bK ck cB c7 du ee eE gV ko rr];exact gx.same fh jY⟩
end
section
variable {f:FuncId} {x:Int} {aN cb w3:World} {b:Nat} {h:gP} {q5:bP} {ws:List ByteArray}
open Go.RowKit Go.Proofs.YthlpmldmhakhaaaGreatDoor.qX
theorem ajf:Fd prog 66 0 0:=λ _ _ _=>by kernel_rfl
theorem ajd:eB prog 64 false:=λ _=>by kernel_rfl
theorem XH:eO prog 9 1:=λ _=>by kernel_rfl
def yp (e:Int):ByteArray:=az [101,114,114,111,114,32]++sP e
theorem amP (p:Addr) (w:World):
  CallsD prog 30 #[.pointer (some p)] .returning w λ e KR w'=>e= .returned (.tuple #[])∧KR= .returning∧Ext w w':=by
 refine callsD_of_wpS func30 Z λ Y2 cs hu=> ?_;have TY:∀ w,(Instr.typeAssert .nilIface 20 66 true).run prog w= .ok (.tuple #[.agg #[γ 0], .bool false]) w:=λ _=>by kernel_rfl
 apply wpS_seq;apply aQ7;simp [wpOpsS,go_sem,recoverD,hu,TY,ntmps30,Exit.thenS];apply wpS_seq;apply aQ7;simp [wpOpsS,go_sem,Exit.thenS];refine wpS_cond (t:=false) (by simp [Act.eval,Array.replicate]) ?_;simp only [aOm,aNR];refine wpS_of_wp (wp_skip ?_);cases Y2
 simp_all [bodyPostS,results,results30,Exit.thenS]
 exact (aNH _ w).alloc (aNk _) _
theorem amQ (p:Nat) (e:Int) (w:World) (he:dB e) (ar:k7 w) (hp:aO w p [.string .empty] 9 (0,0)):
  CallsD prog 30 #[.pointer (a_ p)] (.panicking (n2 e)) w λ r KR w'=>r= .returned (.tuple #[])∧KR= .panicking [{v:= .iface 66 (.agg #[γ e]),recovered:=true}]∧aO w' p [.string (yp e)] 9 (0,0)∧Mod [p] w w':=by
 refine callsD_of_wpS func30 Z λ Y2 cs hu=> ?_;have TY:∀ w,(Instr.typeAssert (.iface 66 (.agg #[γ e])) 20 66 true).run prog w= .ok (.tuple #[.agg #[γ e], .bool true]) w:=λ _=>by kernel_rfl
 apply wpS_seq;apply aQ7;simp [wpOpsS,go_sem,recoverD,hu,TY,n2,ntmps30,Exit.thenS];apply wpS_seq;apply aQ7;simp [wpOpsS,go_sem,Exit.thenS];refine wpS_cond (t:=true) (by simp [Act.eval,Array.replicate]) ?_;simp only [aOB];refine wpS_of_wp ?_;have fo:Ext w (w.alloc (.cells #[γ e] 66)):=(aNH _ w).alloc (aNk _) _;have pU:aO (w.alloc (.cells #[γ e] 66)) w.heap.size [γ e] 66 (0,0):=aO.new w _ _ (0,0);have hp:=hp.later fo;refine (rg (n:=13) (E:= [(0, .pointer (a_ p)),(1, .pointer (some ⟨w.heap.size,0,none⟩))]) ?_) _ ⟨Z,by simp,λ t v h=> ?_⟩
 ·refine aa (au ajf Z)<|bA Z pU ajd Z<|ca (b6 func31 (by kernel_rfl) (by kernel_rfl)) Z Z ((acG e _ he (ar.keep fo)).mono ?_);rintro r cb ⟨rfl,fU⟩;refine ⟨_,Z, ?_⟩;have hp:=hp.later fU;refine aa (v:= .string (yp e)) (Ev (a:=az [101,114,114,111,114,32]) Z Z (by have:=JX he;rw [pd];simp only [aM1,aM5];omega))<|st (new:= [.string (yp e)]) Z Z hp Z XH Z Z Z λ w3 m3 nz=> ?_;refine nl λ a ha=> ?_;refine ⟨ha.d, .panicking [{v:= .iface 66 (.agg #[γ e]),recovered:=true}],Z, .tuple #[], ?_,Z,Z,nz,(Mod.aP (J fo fU)).trans m3⟩;simp [results,results30]
 ·match t,h with
  | 0,h | 1,h=>cases h;simp
  | t+2,h=>cases h
def pa (ds:List Deferred) (a:Act):Act:= {a with defers:=a.defers++ds}
section
variable {P:Program} {ops:Array Oper} {Q:Exit→Act→World→Prop} {ds:List Deferred}
theorem Fh (a:Act) (d:Option Nat) (v:Value):(pa ds a).put d v=pa ds (a.put d v):=by cases d<;>rfl
theorem EL:∀ (l:List Oper) (a:Act) (w:World),wpList P ops (λ e a w=>Q e (pa ds a) w) l a w→wpList P ops Q l (pa ds a) w
 | [],a,w,h=>h
 | o::r,a,w,h=>by
  unfold wpList at h ⊢;have aR:yielded ops (pa ds a).tmps=yielded ops a.tmps:=rfl;have a1:(pa ds a).eval=a.eval:=rfl;rw [aR];by_cases hw:Region.wanted o (yielded ops a.tmps)=true
  ·rw [aNd hw] at h ⊢;rcases h with h | ⟨κ,a',w',τ⟩
   ·left;unfold Oper.wp at *
    rw [a1];generalize (execOp a.eval o).run P w=q at *
    cases q with
    | ok v w' =>
     cases v with
     | value v=>show wpList P ops Q r ((pa ds a).put o.dst v) w';rw [Fh];exact EL r _ _ h
     | skip=>show wpList P ops Q r ((pa ds a).put o.dst undef) w';rw [Fh];exact EL r _ _ h
     | defer d=>show wpList P ops Q r (({pa ds a with defers:=d::(pa ds a).defers}:Act).put o.dst undef) w';rw [show ({pa ds a with defers:=d::(pa ds a).defers}:Act)=pa ds {a with defers:=d::a.defers} from rfl,Fh];exact EL r _ _ h
     | enter f args =>
      refine aOY (show Calls P f args w' _ from h) λ e ku h=> ?_;cases e with
      | returned v=>show wpList P ops Q r ((pa ds a).put o.dst v) ku;rw [Fh];exact EL r _ _ h
      | panicked c=>exact h
      | outgrown=>obtain ⟨di,aN,h⟩:=h;exact ⟨_,_,h⟩
     | row q args=>exact Rows.mono (show Rows P q args w' _ from h) λ v ku h=>by rw [Fh];exact EL r _ _ h
     | _=>exact h
    | halt s w'=>cases s<;>exact h
   ·exact .inr ⟨κ,_,_,τ⟩
  ·rw [aM4 hw] at h ⊢;rw [Fh];exact EL r _ _ h
end
section
variable {P:Program} {n:Nat} {E:List (Nat×Value)} {w:World} {Q:Exit→Act→World→Prop} {ops:Array Oper}
theorem amN {fn:Func} {c:Code} {l:List Value} {R:Ending→World→Prop} (hf:P.funcs[f]? =some fn) (af:fn.body=some c) (hn:fn.ntmps=n) (ay:Nat.ble l.length n=true)
  (h:W P n c (bodyPostD P fn R) (zG 0 l) w):Calls P f l.toArray w R:=by
 refine calls_of_wp_defers hf af (h _ ⟨Z, ?_,λ t v hv=> ?_⟩)
 ·have:=aOu ay;simp only [aPM,aOy,hn,aOq];omega
 ·obtain ⟨j,e,aw⟩:=Ms l 0 t v hv;have bB:=(aM2.1 aw).1;rw [aPE (by simp;omega)];simpa [show t=j by omega] using aw
theorem anJ {x:Operand} {zN:Array Value} {ty:TypeId} {pos:String} {aW:Array Edge} (hx:ev E x=some (.func (.func f) #[] zN)) (h:∀ a,c' n E a→Q .normal (pa [{target:= .fn (.func f) zN,args:=#[]}] a) w):
  bQ P n ops Q [⟨none, .defer {callee:= .value x,args:=#[],argTypes:=#[]},ty,pos,aW,none⟩] E w:=λ a ha=>by
 refine x_ Z ?_;unfold Oper.wp;have e:(execOp a.eval ⟨none, .defer {callee:= .value x,args:=#[],argTypes:=#[]},ty,pos,aW,none⟩).run P w= .ok (.defer {target:= .fn (.func f) zN,args:=#[]}) w:=by
  simp only [execOp,resolve,ha.ev hx];simp [Deferred.ofValue]
 rw [e];have:=h a ha;unfold pa at this;rw [ha.d] at this;show Q .normal (({a with defers:=_::a.defers}:Act).put none undef) w;rw [ha.d];exact this
end
section
variable {p:Nat} {s:ByteArray} {a:Act} {w:World} {R:Ending→World→Prop}
theorem XG:eB prog 9 false:=λ _=>by kernel_rfl
theorem auX (bb:a.tmps[4]? =some (.pointer (a_ p))) (B:aO w p [.string s] 9 (0,0)) (hR:∀ w',Ext w w'→R (.returned (.string s)) w'):
  Leaves prog f20 a.tmps R [{target:= .fn (.func 30) #[.pointer (a_ p)],args:=#[]}] .returning w:=by
 refine leaves_cons (f:= 30) (args:=#[.pointer (a_ p)]) (by simp) (by simp [go_sem]) ?_;refine (amP ⟨p,0,none⟩ w).mono ?_;rintro e KR ku ⟨rfl,rfl,x⟩;have ay:(loadVar 9 ⟨p,0,none⟩).run prog ku= .ok (.string s) ku:=(B.later x).one XG rfl;exact ⟨.string s,by simp [results,results20,bb,asAddr,ay],hR _ x⟩
theorem auW {e:Int} (bb:a.tmps[4]? =some (.pointer (a_ p))) (B:aO w p [.string .empty] 9 (0,0)) (he:dB e) (ar:k7 w) (hR:∀ w',Mod [p] w w'→R (.returned (.string (yp e))) w'):
  Leaves prog f20 a.tmps R [{target:= .fn (.func 30) #[.pointer (a_ p)],args:=#[]}] (.panicking (n2 e)) w:=by
 refine leaves_cons (f:= 30) (args:=#[.pointer (a_ p)]) (by simp) (by simp [go_sem]) ?_;refine (amQ p e w he ar B).mono ?_;rintro r KR ku ⟨rfl,rfl,l8,m⟩;have ay:(loadVar 9 ⟨p,0,none⟩).run prog ku= .ok (.string (yp e)) ku:=l8.one XG rfl;exact ⟨.string (yp e),by simp [results,results20,bb,asAddr,ay],hR _ m⟩
end
def jZ (x:Int):Prop:=0≤x∧x≤10
theorem jZ.ok (h:jZ x):dB x:=cI.2 ⟨by unfold jZ at h;omega,by unfold jZ at h;omega⟩
theorem mf {p:Prop} [Decidable p] {y:Int} (κ:jZ x) (τ:jZ y):jZ (if p then x else y):=by split<;>assumption
theorem gK (h:decide (0≤x∧x≤10)=true):jZ x:=(aNY h:0≤x∧x≤10)
theorem ZM (f:av):jZ f.a7:=by rcases f.am8 with h | h | h<;>rw [h]<;>exact gK rfl
theorem RM (W:ae):jZ W.a7:=by unfold ae.a7;exact mf (ZM _) (mf (gK Z) (mf (gK Z) (gK Z)))
theorem ZJ (f:av) (c:ai):jZ (f.cH c):=by unfold av.cH;exact mf (ZM _) (mf (gK Z) (gK Z))
theorem ZN (o:bC):jZ o.a7:=by unfold bC.a7;exact mf (gK Z) (mf (gK Z) (gK Z))
theorem aoe (l:List bC):jZ (nW l):=by
 unfold nW;refine mf (gK Z) ?_;split
 ·exact ZN _
 ·exact gK Z
theorem aof (W:ae) (l:List bC):jZ (je W l):=by
 have h:jZ (lV W l):=by unfold lV;exact mf (aoe _) (RM _)
 unfold je;exact mf h (mf (gK Z) (gK Z))
theorem aod (f:av) (a b:ai):jZ (eI f a b):=by unfold eI;exact mf (ZJ _ _) (mf (ZJ _ _) (mf (gK Z) (mf (gK Z) (gK Z))))
theorem mR {p:Prop} [Decidable p] {x y:om} (κ:jZ x.e) (τ:jZ y.e):jZ (if p then x else y).e:=by split<;>assumption
theorem zV {T:bP} {n:Nat} {r:List ByteArray} {f:List Int→om} (h:∀ l,jZ (f l).e):jZ (jT T n r f).e:=by
 unfold jT;split
 ·exact gK Z
 ·exact h _
theorem ZK (T:bP) (V:ae) (o:List ByteArray):jZ (T.zK V o).e:=by unfold bP.zK;exact mR (RM _) (gK Z)
theorem ZL (T:bP) (ws:List ByteArray):jZ (T.done ws).e:=by
 unfold bP.done;split
 ·exact gK Z
 ·rename_i s r
  refine mR ?_ (mR (zV λ l=> ?_) (mR (zV λ l=> ?_) (mR (zV λ l=> ?_) (mR (zV λ l=> ?_) (mR (zV λ l=> ?_) (mR (zV λ l=> ?_) (mR (zV λ l=> ?_) (mR (zV λ l=> ?_) (mR (zV λ l=> ?_) (gK Z))))))))))
  ·split
   ·refine mR ?_ (gK Z);show jZ (pC _);unfold pC;exact mf (gK Z) (gK Z)
   ·exact gK Z
  ·exact ZK _ _ _
  ·unfold bP.xk;refine mR ?_ (ZK _ _ _);show jZ (qo _);unfold qo;exact mf (gK Z) (mf (gK Z) (gK Z))
  ·unfold bP.wait;exact mR (ZN _) (mR (gK Z) (gK Z))
  ·unfold bP.AK;exact mR (aof _ _) (gK Z)
  ·exact gK Z
  ·exact mR (gK Z) (gK Z)
  ·unfold bP.way;exact mR (aod _ _ _) (gK Z)
  ·refine mR ?_ (gK Z);show jZ (ks _ _);unfold ks;exact mf (RM _) (mf (gK Z) (gK Z))
  ·exact gK Z
theorem gx.cell {w:World} {p:Nat} (k:gx aN cb b h q5) (x:Ext w aN) (hp:w.heap.size≤p) (JL:p<aN.heap.size) (af:b<w.heap.size) (hf:∀ q∈h.cA,q<w.heap.size) (m:Mod [p] cb w3):gx w w3 b h q5:=by
 obtain ⟨cp,dv,ey,jx⟩:=k;refine ⟨cp,dv.mod m λ q I=> ?_,λ q I=>(ey q I).imp id λ j=>aNm x.size j,((Mod.aP x).trans jx).md m λ q I=> .inr (by rw [aMZ.1 I];exact hp)⟩;rw [aMZ.1 I];exact ⟨by omega,λ hm=>(ey p hm).elim (λ j=>by have:=hf p j;omega) λ j=>by omega⟩
theorem gx.amS {w:World} {p nc:Nat} (k:gx aN cb b h q5) (x:Ext w aN) (hp:w.heap.size≤p) (JL:p<aN.heap.size) (acf:w.heap.size≤nc) (asU:nc<aN.heap.size) (af:b<w.heap.size) (hf:∀ q∈h.cA,q<w.heap.size) (m:Mod [nc,p] cb w3):gx w w3 b h q5:=by
 obtain ⟨cp,dv,ey,jx⟩:=k;have Gx:∀ q∈ [nc,p],w.heap.size≤q∧q<aN.heap.size:=λ q I=>by
  rcases aNg.1 I with rfl | I
  ·exact ⟨acf,asU⟩
  ·rw [aMZ.1 I];exact ⟨hp,JL⟩
 refine ⟨cp,dv.mod m λ q I=> ?_,λ q I=>(ey q I).imp id λ j=>aNm x.size j,((Mod.aP x).trans jx).md m λ q I=> .inr (Gx q I).1⟩;have:=Gx q I;exact ⟨by omega,λ hm=>(ey q hm).elim (λ j=>by have:=hf q j;omega) λ j=>by omega⟩
theorem ajg:kT prog 9 (.string .empty):=λ _=>by kernel_rfl
theorem aje:dN prog e_ 26 9 16:=dN.jz (z:= .string .empty) (k:=1) underlying26 DW rfl rfl (by decide) (λ j u h=>Er j u h)
def sT:ByteArray:=az [111,107]
theorem Uq {T:bP} (h:(T.done ws).e=0):(T.line ws).1=kZ (sT::(T.done ws).out) (az [32]):=by unfold bP.line Mk;exact aM4 (by omega)
theorem Up {T:bP} (h:(T.done ws).e≠0):(T.line ws).1=yp (T.done ws).e:=by unfold bP.line Mk;exact aNd h
theorem apH (T:bP) (ws:List ByteArray):(yp (T.done ws).e).size≤2100000:=by
 have:=JX (ZL T ws).ok;unfold yp;rw [aOF,pd];simp only [aM1,aM5];omega
theorem avf (b aA:Nat) (h:gP) (T:bP) (A:Option Addr) (c:Nat) (ws:List ByteArray) (w:World) (aX:gQ w b h T) (tN:e_.aQ 16 w A c ws) (bB:∀ q∈Φ.ab A,q<w.heap.size) (hh:∀ x∈ws,x.size≤1048576) (ar:fu aA w) (sK:aA≤b):
  Calls prog 20 #[.pointer (a_ b), .slice A ws.length c] w λ e w'=>e= .returned (.string (T.line ws).1)∧(T.line ws).1.size≤2100000∧gx w w' b h (T.line ws).2:=by
 have uq:=aX.B.lt;have O8:=bZ aX.lt;refine amN (n:=12) func20 Z Z Z ?_;refine aF<|dn ajg Z λ aN p fo dQ pU=> ?_;have aK3:=pU.lt;refine aJ<|aF<|aa (Ko Z Z)<|anJ Z λ a ha=> ?_;refine wp_seq (wp_region_lit (EL _ a _ ?_));have bb:∀ {a:Act} {E:List (Nat×Value)},c' 12 E a→look E 4=some (.pointer (a_ p))→a.tmps[4]? =some (.pointer (a_ p)):=λ ha he=>ha.g _ _ he;refine (?_:bQ prog 12 _ _ _ _ _) a ha;refine b_ (e:= 9) (cs:= [.string sT]) Z (λ _=>by kernel_rfl) Z λ cb fe fU iO l8=> ?_;have:=fU.size;have ayj:=l8.lt;have aqU:=(aX.later fo).later fU;have Lb:=J fo fU;refine vm Z<|vm Z<| ?_;refine hD (b6 func32 (by kernel_rfl) (by kernel_rfl)) Z Z ((anS b aA h T A c ws cb aqU (tN.keep Lb) (λ q I=>by have:=bB q I;omega) hh (ar.later Lb) sK).mono ?_);have hp:p∉b::h.cA:=λ hm=>by
  rcases aNg.1 hm with hm | hm
  ·omega
  ·have:=O8 p hm;omega
 have bq:fe∉b::h.cA:=λ hm=>by
  rcases aNg.1 hm with hm | hm
  ·omega
  ·have:=O8 fe hm;omega
 rintro e w3 (⟨he,rfl,hR⟩ | ⟨he,r6,c3,rfl,aj7,XK,hR⟩)
 ·left;refine ⟨_,Z,λ a ha=> ?_⟩;have SQ:=hR;obtain ⟨cp,dv,ey,jx⟩:=hR;have nz:=(pU.later fU).mod jx hp;have aqN:k7 w3:=((ar.later Lb).mod jx λ q I=>by
   rcases aNg.1 I with I | I
   ·omega
   ·have:=(aX.lt q I).1;omega).dK
  show Leaves _ _ a.tmps _ (a.defers++_) _ _;rw [ha.d];refine auW (bb ha Z) nz (ZL T ws).ok aqN λ n5 m4=>⟨by rw [Up he],(by rw [Up he];exact apH _ _),SQ.cell Lb dQ (by omega) uq O8 m4⟩
 ·right;refine ⟨_,Z, ?_⟩;have SQ:=hR;obtain ⟨cp,dv,ey,jx⟩:=hR;have:=jx.size;have p1:=aO.Ky (R:=e_) (by_:=16) (B:=w.heap.size) (k:= [sT]) (l8.mod jx bq) [[.string sT]] rfl ⟨⟨rfl,(by decide)⟩,trivial⟩ (by simp) (by simp) (by decide) (by omega) ayL;have hn:=XK.1;refine ap aje pF p1 aj7.has Z Z (by simp only [aM1,aM5];omega) (by simp only [aM1,aM5];omega) (by omega) Z λ n5 aDg c4 m4 aj8 g4 qD=> ?_;have jt:(kZ (sT::(T.done ws).out) (az [32])).size≤2100000:=by
   have:=Ue (c:=200) (s:=az [32]) (l:=sT::(T.done ws).out) λ x hx=>by
    rcases aNg.1 hx with rfl | hx
    ·decide
    ·exact XK.2 x hx
   have aR:(az [32]).size=1:=rfl;rw [aR,aM1] at this;omega
  have aw:(kZ (sT::(T.done ws).out) (az [32])).size≤140737488355328:=by omega
  refine ca (b6 func11 (by kernel_rfl) (by kernel_rfl)) Z Z ((RG (l:=sT::(T.done ws).out) (az [32]) aj8.has aw).mono ?_);rintro e qL ⟨rfl,kc⟩;refine cF ?_;have asV:p∉ [fe]:=λ hm=>by rw [aMZ] at hm;omega
  have zi:=(((pU.later fU).mod jx hp).mod m4 asV).later kc;refine st (new:= [.string (kZ (sT::(T.done ws).out) (az [32]))]) Z Z zi Z XH Z Z Z λ K0 m6 l9=> ?_;refine nl λ a ha=> ?_;refine wp_ret ?_;show Leaves _ _ a.tmps _ (a.defers++_) _ _;rw [ha.d];have Gr:∀ {xo},Ext K0 xo→Mod [fe,p] w3 xo:=λ aBE =>
   (((m4.sub (S':= [fe,p]) λ q I=>by rw [aMZ.1 I];simp).trans (Mod.aP kc)).trans (m6.sub λ q I=>by rw [aMZ.1 I];simp)).trans (Mod.aP aBE)
  refine auX (bb ha Z) l9 λ Cs jC=>⟨by rw [Uq he],(by rw [Uq he];exact jt), ?_⟩;exact SQ.amS Lb dQ (by omega) (by omega) ayj uq O8 (Gr jC)
end
end Go.Proofs.YthlpmldmhakhaaaGreatDoor
namespace Go.Proofs.YthlpmldmhakhaaaGreatDoor.Pack
open Tryz
open Go.RowKit Go.Proofs.YthlpmldmhakhaaaGreatDoor

theorem agx:(prog.info? 32).map (·.size)=some 2:=by kernel_rfl
theorem ava:liesAt prog prog.depth 32 (2 / prog.cellsOf 32) 0 32 1=true:=by kernel_rfl
theorem infoByte:(prog.info? 5).map (fun i=>(i.zero,i.size,i.bytes))=some (some (.int .u8 0),1,1):=by kernel_rfl
theorem am5 (b:Nat) (w:World) (aC:w.cell? ⟨b,0,none⟩=some (.pointer (some ⟨b,0,none⟩))):
  Calls prog 21 #[.pointer (some ⟨b,0,none⟩)] w fun e w'=>e= .returned (.tuple #[])∧w'=w:=by
 obtain ⟨j,aw,_⟩:=aOR.1 agx;go_enter func21,ntmps21;go_wp2
 rw [Lib.run_neq_ptr_same w _ underlying29 aw];go_wp2
 go_end0
 exact ⟨Z,Z⟩
theorem am4 (b:Nat) (w:World) (aC:w.cell? ⟨b,0,none⟩=some (.pointer none)) (B2:w.shape? b=some (32,2)) (arU:w.frozen? ⟨b,0,none⟩=false):
  Calls prog 21 #[.pointer (some ⟨b,0,none⟩)] w fun e w'=>e= .returned (.tuple #[])∧w'=w.setCell ⟨b,0,none⟩ (.pointer (some ⟨b,0,none⟩)):=by
 obtain ⟨j,aw,asa⟩:=aOR.1 agx;go_enter func21,ntmps21;go_wp2
 rw [Lib.run_to_unsafe w ⟨b,0,none⟩ underlying29 underlying70 aw (by rw [asa];decide) B2 (Nat.zero_lt_succ 1)];simp only [Result.andThen];rw [aQ0];go_wp2
 rw [run_callFunc_extern func33 (by kernel_rfl) (by kernel_rfl) (by kernel_rfl) (e:=Extern.AbiNoEscape.same) (by kernel_rfl)];rw [Lib.run_noEscape];simp only [Result.andThen];rw [aQ0];go_wp2
 rw [Lib.run_from_unsafe w ⟨b,0,none⟩ underlying70 underlying29 aw B2 ava];simp only [Result.andThen];rw [aQ0];go_wp2
 go_end0
 exact ⟨Z,Z⟩
end Go.Proofs.YthlpmldmhakhaaaGreatDoor.Pack
namespace Go.Proofs.YthlpmldmhakhaaaGreatDoor
open Tryz
section
variable {w w':World} {q b c:Nat} {e:TypeId} {h:gP} {v:Value} {S:List Nat}
open Go.RowKit Go.Proofs.YthlpmldmhakhaaaGreatDoor.Pack
def sf (w:World) (q:Nat) (e:TypeId):Prop:=∃ cur ao,w.heap[q]? =some (.cells cur e ao)
theorem sf.ne {p:Nat} {f:TypeId} (h:sf w q e) (k:sf w p f) (hn:Nat.beq e f=false):q≠p:=λ I=>by
 subst I;obtain ⟨c,ao,h⟩:=h;obtain ⟨cn,yr,k⟩:=k;rw [h] at k;injection k with k;injection k with _ k _
 exact aPT hn k
theorem aO.of {cs:List Value} {ao:Nat×Nat} (h:aO w b cs e ao):sf w b e:=⟨_,_,h⟩
theorem Em {α:Type} {R:Φ α} {e by_ B:Nat} {A:Option Addr} {l:List α} (h:R.aM e by_ w B (Φ.ab A) A c l):∀ q∈Φ.ab A,sf w q e:=by
 obtain ⟨_,ps,_,_,⟨_,bk⟩,_⟩:=h;rcases bk with ⟨κ,_⟩ | ⟨g,cap,cur,κ,_,τ,_⟩
 ·injection κ with κ;subst κ;intro q I;exact nomatch I
 ·injection κ with κ;subst κ;intro q I
  obtain rfl:=aMZ.1 I;exact ⟨_,_,τ⟩
def Qi (e:TypeId):Prop:=Nat.beq 55 e=false∧Nat.beq 3 e=false∧Nat.beq 98 e=false∧Nat.beq 108 e=false∧Nat.beq 110 e=false
theorem Yf:Qi 5 :=⟨rfl,rfl,rfl,rfl,rfl⟩
theorem Ye:Qi 32 :=⟨rfl,rfl,rfl,rfl,rfl⟩
theorem gQ.Mr {T:bP} (k:gQ w b h T) (he:Qi e) (I:sf w q e):q≠b∧q∉h.cA:=by
 obtain ⟨κ,τ,aq,bb,bV⟩:=he;refine ⟨λ e=>(k.B.of.ne I κ) e.symm,λ hm=> ?_⟩;rcases gP.mem.1 hm with hm | hm
 ·unfold bt.cA at hm;simp only [aNi] at hm;rcases hm with (((hm | hm) | hm) | hm) | hm
  ·exact (Em k.W.P q hm).ne I τ Z
  ·exact (Em k.W.B q hm).ne I aq Z
  ·exact (Em k.W.S q hm).ne I τ Z
  ·exact (Em k.W.M q hm).ne I τ Z
  ·exact (Em k.W.T q hm).ne I bb Z
 ·exact (Em k.L q hm).ne I bV Z
def iI (w:World) (b:Nat) (b_:List Value):Prop:=Lib.IsBuilder 32 5 b b b_ w
theorem iI.parts {b_:List Value} (h:iI w b b_):∃ p v,w.heap[b]? =some (.cells #[p,v] 32 (0,0))∧(p= .pointer none∨p= .pointer (some ⟨b,0,none⟩))∧w.ownsRow b 5 1 v b_.length b_∧v.ownBlock≠some b:=by
 rcases h with ⟨_,v,κ,τ,aq⟩ | ⟨_,v,κ,τ,aq⟩
 ·exact ⟨_,v,κ, .inl Z,τ,aq⟩
 ·exact ⟨_,v,κ, .inr Z,τ,aq⟩
theorem iI.mk {b_:List Value} {p:Value} (κ:w.heap[b]? =some (.cells #[p,v] 32 (0,0))) (hp:p= .pointer none∨p= .pointer (some ⟨b,0,none⟩)) (τ:w.ownsRow b 5 1 v b_.length b_) (aq:v.ownBlock≠some b):iI w b b_:=by
 rcases hp with rfl | rfl
 ·exact .inl ⟨aNk _,v,κ,τ,aq⟩
 ·exact .inr ⟨aNk _,v,κ,τ,aq⟩
theorem iI.lt {b_:List Value} (h:iI w b b_):b<w.heap.size:=by
 obtain ⟨p,v,κ,_⟩:=h.parts;exact (aNy.1 κ).1
theorem iI.of {b_:List Value} (h:iI w b b_):sf w b 32 :=by
 obtain ⟨p,v,κ,_⟩:=h.parts;exact ⟨_,_,κ⟩
theorem ayQ {n:Nat} {xs:List Value} (h:w.ownsRow b e 1 v n xs) (I:v.ownBlock=some q):b≤q∧sf w q e:=by
 rcases h.2 with ⟨rfl,_⟩ | ⟨g,cap,cur,rfl,af,aU,_⟩
 ·cases I
 ·injection I with I
  subst I;exact ⟨af,_,_,aU⟩
theorem iI.aws {b_:List Value} (h:iI w b b_) (m:Mod S w w') (af:b∉S) (hS:∀ q∈S,¬ sf w q 5):iI w' b b_:=by
 obtain ⟨p,v,κ,hp,τ,aq⟩:=h.parts;refine iI.mk (by rw [m.block b h.lt af];exact κ) hp ⟨τ.1,τ.2.imp id ?_⟩ aq;rintro ⟨g,cap,cur,rfl,aU,hc,r⟩;refine ⟨g,cap,cur,Z,aU, ?_,r⟩;rw [m.block g (aNy.1 hc).1 λ hm=>hS g hm ⟨_,_,hc⟩];exact hc
theorem iI.mod {b_:List Value} (h:iI w b b_) (m:Mod S w w') (hS:∀ q∈S,q≠b∧¬ sf w q 5):iI w' b b_:=h.aws m (λ af=>(hS b af).1 rfl) λ q I=>(hS q I).2
theorem iI.later {b_:List Value} (h:iI w b b_) (x:Ext w w'):iI w' b b_:=h.mod (Mod.aP (S:= []) x) λ q I=>nomatch I
theorem gQ.alC {T:bP} {b_:List Value} (t:gQ w c h T) (k:iI w b b_):∀ q∈c::h.cA,q≠b∧¬ sf w q 5 :=λ q I=>by
 have κ:=t.Mr Ye k.of;refine ⟨λ e=> ?_,λ bk=> ?_⟩
 ·subst e;exact (aNg.1 I).elim κ.1 κ.2
 ·have τ:=t.Mr Yf bk;exact (aNg.1 I).elim τ.1 τ.2
theorem gQ.at3 {T:bP} {b_:List Value} {K:List Nat} (t:gQ w c h T) (k:iI w b b_) (hK:∀ q∈K,b≤q∧(w.heap.size≤q∨sf w q 5)):∀ q∈b::K,q≠c∧q∉h.cA:=λ q I=>by
 rcases aNg.1 I with rfl | I
 ·exact t.Mr Ye k.of
 ·rcases (hK q I).2 with j | j
  ·exact ⟨by have:=t.B.lt;omega,λ hm=>by have:=(t.lt q hm).2;omega⟩
  ·exact t.Mr Yf j
theorem iI.new (h:aO w b [.pointer none, .slice none 0 0] 32 (0,0)):iI w b [] :=
 iI.mk h (.inl rfl) ⟨rfl, .inl ⟨rfl,rfl⟩⟩ (by simp [Value.ownBlock])
def aj0 (b:Nat) (w w':World):Prop:=∃ K:List Nat,Mod (b::K) w w'∧∀ q∈K,b≤q∧(w.heap.size≤q∨sf w q 5)
theorem am3 (b:Nat) (b_:List Value) (w:World) (h:iI w b b_):
  Calls prog 21 #[.pointer (some ⟨b,0,none⟩)] w λ e w'=>e= .returned (.tuple #[])∧Lib.BuilderAt 32 5 b b (.pointer (some ⟨b,0,none⟩)) b_ w'∧Mod [b] w w'∧w'.heap.size=w.heap.size:=by
 rcases h with h | h
 ·refine (am4 b w h.cell0 h.shape h.frozen0).mono ?_;rintro e w' ⟨rfl,rfl⟩;exact ⟨Z,h.used _,Mod.setCell w ⟨b,0,none⟩ _,by simp [World.setCell]⟩
 ·refine (am5 b w h.cell0).mono ?_;rintro e w' ⟨rfl,rfl⟩;exact ⟨Z,h,Mod.bN _ _,Z⟩
theorem alN (b:Nat) (b_:List Value) (s:ByteArray) (w:World) (h:iI w b b_) (hlen:b_.length+s.size≤140737488355328):
  Calls prog 10 #[.pointer (some ⟨b,0,none⟩), .string s] w λ e w'=>e= .returned (.tuple #[.int .i64 s.size, .nilIface])∧iI w' b (b_++Lib.strCells s)∧aj0 b w w':=by
 obtain ⟨i0,ak,B4,DT,DU⟩:=aQF infoByte;have aGJ:=h.lt;go_enter func10,ntmps10;go_wp2_with fail
 refine (am3 b b_ _ h).mono ?_;rintro e aN ⟨rfl,κ,dO,gh⟩;obtain ⟨aS,v,NY,jv,dF⟩:=κ;have bd:aN.cell? ⟨b,1,none⟩=some v:=by rw [Lib.cell_of_heap NY];rfl
 go_wp2_with (at_builtin;refine Lib.wpList_append_own_string _ rfl _ _ 30 9 rfl b 5 i0 underlying30 underlying9 ak B4 DT DU _ _ _ rfl jv s rfl ?c3 ?c4 ?c5 ?_)
 case c3=>unfold maxLen;omega
 case c4=>omega
 case c5=>omega
 intro v' cb acd qh _;have bB:b<aN.heap.size:=by omega
 have bq:cb.heap[b]? =some (.cells #[.pointer (some ⟨b,0,none⟩),v] 32 (0,0)):=by
  rw [qh.block b bB (λ e=>dF e.symm)];exact NY
 have d1:cb.cell? ⟨b,1,none⟩=some v:=by rw [Lib.cell_of_heap bq];rfl
 have f1:cb.frozen? ⟨b,1,none⟩=false:=Lib.frozen_of_heap bq 1;obtain ⟨Ya,na,cap,rfl⟩:∃ Ya na cap,v'= .slice Ya na cap:=by
  rcases acd.2 with ⟨hv,_⟩ | ⟨g,cap,cur,hv,_⟩
  ·exact ⟨_,_,_,hv⟩
  ·exact ⟨_,_,_,hv⟩
 go_wp2
 go_ret2
 refine ⟨Z, .inr ?_,v.ownBlock.toList, ?_,λ q I=> ?_⟩
 ·exact Lib.BuilderAt.put (T:= 32) (e:= 5) aS bq (bs':=b_++Lib.strCells s) (by simpa [Lib.strCells_length] using acd) (by decide)
 ·refine ((dO.sub (S':=b::v.ownBlock.toList) λ q I=>by rw [aMZ.1 I];exact aNo).trans ((Mod.grown qh).sub λ q I=>aNe _ I)).trans ((Mod.setCell _ ⟨b,1,none⟩ _).sub λ q I=> ?_);rw [aMZ.1 I];exact aNo
 ·obtain ⟨dv,cur,ao,ey⟩:=ayQ jv (aRA.1 I);refine ⟨dv, .inr ⟨cur,ao, ?_⟩⟩;have aG6:=(aNy.1 ey).1;rw [← dO.block q (by omega) λ hm=>dF (by rw [← aMZ.1 hm];exact aRA.1 I)];exact ey
end
end Go.Proofs.YthlpmldmhakhaaaGreatDoor
