import Derived.Test.YtmeeljmapailnaaGreatHitG
set_option linter.unusedVariables false
set_option linter.unusedSimpArgs false
set_option maxRecDepth 100000
set_option maxHeartbeats 4000000
open Go.RowKit
namespace Go.Proofs.YtmeeljmapailnaaGreat
open Tryz
abbrev aZN:=@Classical.byContradiction
abbrev baP:=@List.filter_append
abbrev baY:=@List.length_filter_le
abbrev bbD:=@List.contains_iff_mem
abbrev bbL:=@bne_eq_false_iff_eq
abbrev bbU:=@bne_iff_ne
section
variable {h:List Int} {k:Nat} {l:List fc}
theorem asF:ez prog bj.rep 26 57 56:=ez.ki (z:=bj.zero) (k:=7) underlying26 bj.info rfl rfl (by decide) bj.j8
theorem asG:ez prog bu 22 3 8:=ez.ki (z:=Φ 0) (k:=1) underlying22 xI rfl rfl (by decide) (λ j u h=>Bw j u h)
def zh (T:List bj) (h:List Int) (i:Nat):bj:= {T.getD i default with dW:=(T.getD i default).dW - h.getD i 0}
def sq (T:List bj) (h:List Int) (k:Nat):List bj:=((List.range k).map (zh T h)).filter λ t=>decide (0<t.dW)
def r_ (T:List bj) (h:List Int) (k:Nat):List Int:=(((List.range k).map (zh T h)).filter λ t=> !decide (0<t.dW)).map bj.id
theorem aFw {T:List bj} (hp:0<(T.getD k default).dW - h.getD k 0):sq T h (k+1)=sq T h k++ [zh T h k]:=by
 unfold sq;rw [aZY,aYA,baP,aY3,bac,aZO,aYq (show decide (0<(zh T h k).dW)=true from aYD hp)];rfl
theorem aFv {T:List bj} (hp:¬ 0<(T.getD k default).dW - h.getD k 0):sq T h (k+1)=sq T h k:=by
 unfold sq;rw [aZY,aYA,baP,aY3,bac,aZO,aYi (show ¬ decide (0<(zh T h k).dW)=true from λ e=>hp (aY6 e))];simp
theorem aAq {T:List bj} (hp:0<(T.getD k default).dW - h.getD k 0):r_ T h (k+1)=r_ T h k:=by
 unfold r_;rw [aZY,aYA,baP,aY3,bac,aZO,aYi (show ¬ (!decide (0<(zh T h k).dW))=true from by rw [aYD (show 0<(zh T h k).dW from hp)];decide)];simp
theorem aAp {T:List bj} (hp:¬ 0<(T.getD k default).dW - h.getD k 0):r_ T h (k+1)=r_ T h k++ [(T.getD k default).id]:=by
 unfold r_;rw [aZY,aYA,baP,aY3,bac,aZO,aYq (show (!decide (0<(zh T h k).dW))=true from by rw [aYL (show ¬ 0<(zh T h k).dW from hp)];rfl),aYA];rfl
theorem aFu (T:List bj) (h:List Int) (k:Nat):(sq T h k).length≤k:=by unfold sq;exact aYF (baY _ _) (by simp)
theorem aAo (T:List bj) (h:List Int) (k:Nat):(r_ T h k).length≤k:=by unfold r_;rw [aYT];exact aYF (baY _ _) (by simp)
theorem R_ {W:ai} (h:nF W l=0):W.a7=0∧l.length≤200:=by
 unfold nF at h;split at h
 ·contradiction
 ·rename_i hc
  split at h
  ·exact nomatch h
  ·exact ⟨by simpa using hc,by omega⟩
theorem aau {W:ai} (h:nF W l=0):(gR W l).length=W.ao.length∧∀ k,0≤(gR W l).getD k 0∧(gR W l).getD k 0≤800:=by
 obtain ⟨κ,τ,au⟩:=Ya W l;have aU:=(R_ h).2;have e:gR W l=(lZ W l).2:=by unfold gR;rw [h];rfl
 rw [e];exact ⟨τ,λ k=>by have:=au k;omega⟩
theorem adH {w:World} {A:Option Addr} {c:Nat} {T:List bj} (h:bj.rep.aK 56 w A c T) (k:Nat):(T.getD k default).ok:=by
 rw [aX7];cases aH:T[k]? with
 | none=>exact ⟨by decide,by decide,by decide,by decide,by decide,by decide,by decide⟩
 | some t=>exact J.aK.AB (Q:=bj.ok) (λ h=>And.right (show _∧_ from h)) h t (aYR aH)
theorem Good.aFz {W:ai} (bP:Good W) (ak:k<W.ao.length):1≤(W.ao.getD k default).dW∧(W.ao.getD k default).dW≤20:=by
 obtain ⟨t,aH⟩:=ic ak;have e:W.ao.getD k default=t:=by rw [aX7,aH];rfl
 rw [e];have κ:=bP.ao k t aH;have τ:ai.ni t.kind≤20:=by unfold ai.ni;split<;>(try split)<;>omega
 have:=κ.dW;omega
def qq (W:ai) (l:List fc):ai:=if nF W l≠0 then ai.zero else {W with ao:=sq W.ao (gR W l) W.ao.length}
def Bz (W:ai) (l:List fc):List Int:=if nF W l≠0 then [] else r_ W.ao (gR W l) W.ao.length
def atO (W:ai) (l:List fc) (w:World) (e:Ending) (w':World):Prop :=
 ∃ a' A c,e= .returned (.tuple #[.agg (ai.cells a' (qq W l)).toArray, .slice A (Bz W l).length c,Φ (nF W l)])∧bH w' w.heap.size a' (qq W l)∧bu.aF 3 8 w' w.heap.size (J.ab A) A c (Bz W l)∧(∀ q∈J.ab A,q∉bH.cR a')∧Ext w w'
theorem aJ1 {W:ai} (h:¬ nF W l=0):qq W l=ai.zero∧Bz W l= []:=by unfold qq Bz;rw [aYq h,aYq h];exact ⟨Z,Z⟩
theorem adB {W:ai} (h:nF W l=0) (ak:k=W.ao.length):qq W l= {W with ao:=sq W.ao (gR W l) k}∧Bz W l=r_ W.ao (gR W l) k:=by
 subst ak;unfold qq Bz;rw [aYi (by simpa using h),aYi (by simpa using h)];exact ⟨Z,Z⟩
theorem aC8 (a:ai.b7) (W:ai) (w:World) (bZ:ai.Has w a W):
  Calls prog 59 #[.agg ((ai.cells a W).toArray)] w (λ e w'=>∃ a':ai.b7,e= .returned (.agg (ai.cells a' W).toArray)∧bH w' w.heap.size a' W∧Ext w w'):=by
 refine ch (n:=26) func59 Z Z Z ?_;refine dZ Z Z λ cG bB aR d' ae=> ?_;have hE:=ae.lt;refine cU nG Z λ eC cJ bt hP ar=> ?_;have:=bt.size;have bO:=γ aR bt;have mB:=ar.lt;refine aC<|aw<|aa (aj r7 Z)<|aa (aj y0 Z)<| ?_;have ae:=ae.later bt;refine bk Z ae c8 Z<|ca xp Z Z ((sZ _ _ W.field.a_ _ (bZ.P.keep bO)).mono ?_);rintro e t_ ⟨BQ,ES,rfl,yE,aCS,jo⟩;refine cu ?_;have:=jo.size;have iP:=γ bO jo;have ou:=bM yE.lt;have oe:=dx yE.lt;refine aa (aj r7 Z)<|aa (aj y0 Z)<| ?_;have ae:=ae.later jo;refine dU Z Z ae Z nH Z Z λ zT tM ae=> ?_;have:=tM.size;have k3:=Ext.mod iP tM bo;refine aC<|av<| ?_;refine cO [(1,0),(2,2),(4,0),(5,2),(7,3),(9,3)] [0,1,3,4,2,6,5,7,8,9] ?_;refine aq Z (λ _=>aj s8 Z)<|cf Z Z ae xq Z<|aq Z (λ _=>aj vU Z)<|cf Z Z ae c8 Z<|ff Z Z Z λ rF cX Q hK=>ca Zc Z Z ((Sp _ _ W.bf _ (bZ.B.keep (γ k3 cX))).mono ?_);rintro e BG ⟨WM,Ym,rfl,yF,aCV,ko⟩;refine ⟨_,Z,hK _ _ ⟨γ cX ko, ?_⟩⟩;have:=cX.size;have iA:=γ k3 cX;have:=ko.size;have o7:=γ iA ko;have BD:=bM yF.lt;have wh:=dx yF.lt;refine aq Z (λ _=>aj s8 Z)<|ff Z Z Z λ Jb ma Q hK=>ca xp Z Z ((sZ _ _ W.bE _ (bZ.S.keep (γ o7 ma))).mono ?_);rintro e wG ⟨Mq,Yn,rfl,yG,aCW,fE⟩;refine ⟨_,Z,hK _ _ ⟨γ ma fE, ?_⟩⟩;have:=ma.size;have sJ:=γ o7 ma;have:=fE.size;have mH:=γ sJ fE;have Qk:=bM yG.lt;have tI:=dx yG.lt;have ae:=ae.later (γ cX (γ ko (γ ma fE)));refine dE Z Z Z λ wH fF Q hK=>dU Z Z (ae.later fF) Z Zd Z Z λ Gt iH ae=>hK _ _ ?_;have:=fF.size;have j6:=γ mH fF;have:=iH.size;have rN:=Ext.mod j6 iH bo;refine aq Z (λ _=>aj vU Z)<|dE Z Z Z λ wI fv Q hK=>dU Z Z (ae.later fv) Z nH Z Z λ Jd iw ae=>hK _ _ ?_;have:=fv.size;have kt:=γ rN fv;have:=iw.size;have qB:=Ext.mod kt iw bo;refine fn λ ue fq=> ?_;have:=fq.size;have j7:=γ qB fq;refine aX<|av<| ?_;refine cO [(1,0),(2,2),(4,0),(5,2),(7,3),(9,3)] [0,1,3,4,2,6,5,7,8,9] ?_;refine aq Z (λ _=>aj AX Z)<| ?_;have ae:=ae.later fq;refine cf Z Z ae c8 Z<|aq Z (λ _=>aj ld Z)<|cf Z Z ae nb Z<|ff Z Z Z λ DN hX Q hK=>ca xp Z Z ((sZ _ _ W.bX _ (bZ.M.keep (γ j7 hX))).mono ?_);rintro e Jf ⟨WQ,AG,rfl,yH,aCX,hk⟩;refine ⟨_,Z,hK _ _ ⟨γ hX hk, ?_⟩⟩;have:=hX.size;have rP:=γ j7 hX;have:=hk.size;have qC:=γ rP hk;have adQ:=bM yH.lt;have wj:=dx yH.lt;refine aq Z (λ _=>aj AX Z)<|ff Z Z Z λ V3 i' Q hK=>ca Ze Z Z ((Sq _ _ W.ao _ (bZ.T.keep (γ qC i'))).mono ?_);rintro e Mb ⟨WR,Sg,rfl,Ci,aCY,gz⟩;refine ⟨_,Z,hK _ _ ⟨γ i' gz, ?_⟩⟩;have:=i'.size;have yo:=γ qC i';have vy:=γ yo gz;have tJ:=dx Ci.lt;have ae:=ae.later (γ hX (γ hk (γ i' gz)));refine dE Z Z Z λ ap9 rK Q hK=>dU Z Z (ae.later rK) Z nH Z Z λ DO jj ae=>hK _ _ ?_;have QP:=γ vy rK;have pT:=Ext.mod QP jj bo;refine aq Z (λ _=>aj ld Z)<|dE Z Z Z λ Qs iz Q hK=>dU Z Z (ae.later iz) Z NY Z Z λ Gv tO ae=>hK _ _ ?_;have yq:=γ pT iz;have lA:=Ext.mod yq tO bo;refine fn λ V8 hY=> ?_;have D':=γ lA hY;refine aX<|aw<| ?_;have ae:=ae.later hY;refine aa (ax Z (ae.all dz cd))<| ?_;have ar:=((((((((((ar.later jo).mod tM aO).later (γ cX (γ ko (γ ma (γ fE fF))))).mod iH aO).later fv).mod iw aO).later (γ fq (γ hX (γ hk (γ i' (γ gz rK)))))).mod jj aO).later iz).mod tO aO).later hY;refine cF Z Z ar Z cd Z Z λ V_ qj ar=> ?_;have Eb:=Ext.mod D' qj bo;refine sk<|cz (.cell Z (ar.all dz cd) .nil)<| ?_;have yE:=((((((((((yE.mod tM (bz oe)).later (γ cX (γ ko (γ ma (γ fE fF))))).mod iH (bz oe)).later fv).mod iw (bz oe)).later (γ fq (γ hX (γ hk (γ i' (γ gz rK)))))).mod jj (bz oe)).later iz).mod tO (bz oe)).later hY).mod qj (bz oe);have yF:=(((((((((yF.later (γ ma (γ fE fF))).mod iH (bz wh)).later fv).mod iw (bz wh)).later (γ fq (γ hX (γ hk (γ i' (γ gz rK)))))).mod jj (bz wh)).later iz).mod tO (bz wh)).later hY).mod qj (bz wh);have yG:=(((((((((yG.later fF).mod iH (bz tI)).later fv).mod iw (bz tI)).later (γ fq (γ hX (γ hk (γ i' (γ gz rK)))))).mod jj (bz tI)).later iz).mod tO (bz tI)).later hY).mod qj (bz tI);have yH:=(((((yH.later (γ i' (γ gz rK))).mod jj (bz wj)).later iz).mod tO (bz wj)).later hY).mod qj (bz wj);have Ci:=(((((Ci.later rK).mod jj (bz tJ)).later iz).mod tO (bz tJ)).later hY).mod qj (bz tJ);have hR:=bH.acx (aA:=w.heap.size) (yE.down (by omega)) (yF.down (by omega)) (yG.down (by omega)) (yH.down (by omega)) (Ci.down (by omega)) (λ q κ τ=>by exfalso;(have:=wh q κ;(have:=ou q τ;omega))) (λ q κ τ=>by exfalso;(have:=tI q κ;(have:=ou q τ;omega))) (λ q κ τ=>by exfalso;(have:=tI q κ;(have:=BD q τ;omega))) (λ q κ τ=>by exfalso;(have:=wj q κ;(have:=ou q τ;omega))) (λ q κ τ=>by exfalso;(have:=wj q κ;(have:=BD q τ;omega))) (λ q κ τ=>by exfalso;(have:=wj q κ;(have:=Qk q τ;omega))) (λ q κ τ=>by exfalso;(have:=tJ q κ;(have:=ou q τ;omega))) (λ q κ τ=>by exfalso;(have:=tJ q κ;(have:=BD q τ;omega))) (λ q κ τ=>by exfalso;(have:=tJ q κ;(have:=Qk q τ;omega))) (λ q κ τ=>by exfalso;(have:=tJ q κ;(have:=adQ q τ;omega))) bZ.nums;exact ⟨⟨BQ,WM,Mq,WQ,WR,ES,Ym,Yn,AG,Sg⟩,Z,hR,Eb⟩
theorem ape (l:List fc) (A:Option Addr) (c:Nat) (a:ai.b7) (W:ai) (w:World) (bZ:ai.Has w a W) (ah:fc.rep.aK 16 w A c l):
  Calls prog 31 #[.agg ((ai.cells a W).toArray), .slice A l.length c] w (atO W l w):=by
 refine ch (n:=62) func31 Z Z Z ?_;refine dZ Z Z λ cG bB aR d' ae=> ?_;have hE:=ae.lt;refine cU nG Z λ eC cJ bt hP ar=> ?_;have bO:=γ aR bt;have mB:=ar.lt;refine va Z<|aJ Z<|aw<| ?_;have ae:=ae.later bt;refine aa (ax Z (ae.all dz cd))<|vm Z<|ca azm Z Z ((au2 a W l _ _ _ (bZ.keep bO) (ah.keep bO)).mono ?_);rintro e t_ ⟨BQ,ES,rfl,qI,jo⟩;refine cu ?_;have:=jo.size;have iP:=γ bO jo;have ou:=bM qI.lt;have oe:=dx qI.lt;refine vm Z<|bs Z Z<|bs Z Z<|va Z<|aJ Z<|av<|aB Z<|cS Z Z<|aC<| ?_;refine eU Z (λ xy=> ?_) (λ xy=> ?_)
 ·refine aw<|aa (v:= .agg #[Φ 0,Φ 0, .slice none 0 0, .slice none 0 0, .slice none 0 0, .slice none 0 0, .slice none 0 0,Φ 0,Φ 0]) (eu Z)<|vm Z<| ?_;have ar:=ar.later jo;refine cF Z Z ar Z cd Z Z λ nR FR ar=> ?_;have eZ:=Ext.mod iP FR bo;refine va Z<|aY Z<|bD<|cz (.cell Z (ar.all dz cd) (.tmp Z (.tmp Z .nil)))<| ?_;obtain ⟨aW,bb⟩:=aJ1 xy;exact ⟨⟨none,none,none,none,none,0,0,0,0,0⟩,none,0,by rw [aW,bb];rfl,by rw [aW];exact bH.zero _ _,by rw [bb];exact J.aF.nil _,λ q I=>by simp [J.ab] at I,eZ⟩
 ·obtain ⟨hc,aRl⟩:=R_ xy;have bP:=Good.Dx hc;have Ik:=bP.dJ;obtain ⟨k_,fw⟩:=aau xy;have di:=adH bZ.T;have aCE:=λ k (ak:k<W.ao.length)=>bP.aFz ak;refine bm<|aw<| ?_;have ae:=ae.later jo;refine aa (ax Z (ae.all dz cd))<|ca azn Z Z ((aC8 a W _ (bZ.keep iP)).mono ?_);rintro e zU ⟨b2,rfl,bq,j5⟩;refine cu ?_;have:=j5.size;have k4:=γ iP j5;have DJ:=bM bq.lt;have abY:=dx bq.lt;have ae:=ae.later j5;refine st Z Z ae Z cd Z Z Z λ ud jI ae=> ?_;have:=jI.size;have hI:=Ext.mod k4 jI bo;refine aC<|aw<|aJ Z<|aw<|aa (aj ld Z)<|bk Z ae nb Z<|aa (b5 underlying26 Z)<|UB (R:=bj.rep) (by_:=56) (B:=w.heap.size) (c:=W.ao.length) (zv:=bj.zero) J.qa underlying26 bj.info Z (by decide) bj.j8 Z Z Z (by omega) (by omega) (by omega) λ Gs X6 o3 aTN Nf=> ?_;have oy:=γ hI o3;have uV:∀ q∈J.ab (bA X6),X6≤q:=λ q I=>aZQ (aYf.1 I).symm;refine aJ Z<|av<|aw<|aa (aj ld Z)<| ?_;have ae:=ae.later o3;refine bk Z ae nb Z<|aa (b5 underlying26 Z)<|vm Z<|aC<|bJ<| ?_;have dA:=nw (jI) o3;have qI:=(qI.later j5).mod dA (bz oe);have bq:=bq.mod dA (bz abY);have ar:=(ar.later (γ jo j5)).mod dA aO;refine eV (λ cp cn aP=>∃ k:Nat,∃ sN:Option Addr,∃ yU:Nat,∃ eP:Option Addr,∃ Nx:Nat,cn= [(2, .pointer (bA bB)),(4, .pointer (bA cJ)),(5, .slice none 0 0),(6,Φ 0),(7, .slice BQ ((gR W l).length) ES),(9, .slice eP ((r_ W.ao (gR W l) k).length) Nx),(10, .slice sN ((sq W.ao (gR W l) k).length) yU),(30, .slice b2.T W.ao.length b2.t),(31,Φ (W.ao.length:Int)),(32,Φ (k:Int))]∧cp=W.ao.length - k∧Ext w aP∧aM aP bB (ai.cells b2 W) 28 (0,0)∧aM aP cJ [Φ 0,Φ 0, .slice none 0 0, .slice none 0 0, .slice none 0 0, .slice none 0 0, .slice none 0 0,Φ 0,Φ 0] 28 (0,0)∧bu.aF 3 8 aP eC.heap.size (J.ab BQ) BQ ES (gR W l)∧bH aP t_.heap.size b2 W∧bj.rep.aF 57 56 aP w.heap.size (J.ab sN) sN yU (sq W.ao (gR W l) k)∧bu.aF 3 8 aP w.heap.size (J.ab eP) eP Nx (r_ W.ao (gR W l) k)∧(k≤W.ao.length)∧(∀ q∈J.ab sN,q=bB→False)∧(∀ q∈J.ab sN,q=cJ→False)∧(∀ q∈J.ab sN,q∈bH.cR b2→False)∧(∀ q∈J.ab sN,q∈J.ab BQ→False)∧(∀ q∈J.ab eP,q=bB→False)∧(∀ q∈J.ab eP,q=cJ→False)∧(∀ q∈J.ab eP,q∈bH.cR b2→False)∧(∀ q∈J.ab eP,q∈J.ab BQ→False)∧(∀ q∈J.ab eP,q∈J.ab sN→False)) _ _ ⟨0,some ⟨X6,0,none⟩,W.ao.length,none,0,Z,Z,oy,ae,ar,qI,bq,Nf,(J.aF.nil _),by omega,(λ q I ag=>by (have:=uV q I;omega)),(λ q I ag=>by (have:=uV q I;omega)),(λ q I ag=>by (have:=uV q I;(have:=DJ q ag;omega))),(λ q I ag=>by (have:=uV q I;(have:=ou q ag;omega))),(λ q I ag=>by (simp [J.ab] at I)),(λ q I ag=>by (simp [J.ab] at I)),(λ q I ag=>by (simp [J.ab] at I)),(λ q I ag=>by (simp [J.ab] at I)),(λ q I ag=>by (simp [J.ab] at I))⟩ (eO Z Z Z) ?_;rintro iw aOe Jd ⟨k,sN,yU,eP,Nx,rfl,rfl,qB,ae,ar,qI,bq,yI,ct,ak,yX,AM,AN,Kb,xl,EY,HB,NJ,NK⟩;have PW:=ae.lt;have Vb:=ar.lt;have I9:=bM qI.lt;have BE:=bM bq.lt;have I_:=bM yI.lt;have LX:=bM ct.lt;have zB:=aFu W.ao (gR W l) k;have ru:=aAo W.ao (gR W l) k;refine aw<|dR Z Z<|aC<|av<| ?_;refine en Z (λ aBi=> ?_) (λ aBi=> ?_)
  ·obtain ⟨v1,v2⟩:=fw k;have vZ:=aCE k (by omega);refine bm<|av<|bJ<|aB Z<|aa (cl k underlying26 lJ Z Z (bq.T.has.bT (aV k)) Z (by omega))<|aa (ax Z (J.aK.iu kC (bq.T.has.cD (aV k)) (dt (l:=W.ao) (u:=default) (by omega)) AW lJ))<|cU NW Z λ L8 agk iM amL oz=> ?_;have o8:=γ qB iM;have acT:=oz.lt;refine va Z<|cF Z Z oz Z lJ Z Z λ Qq jJ oz=> ?_;have:=jJ.size;have Aa:=Ext.mod o8 jJ bo;refine aC<|av<| ?_;refine cO [(1,0),(5,0),(8,3)] [0,1,2,3,4,5,6,7,8] ?_;refine aq Z (λ _=>aj S1 Z)<|cf Z Z oz aT Z<|a1 Z Z<|a1 Z Z<| ?_;have qI:=(qI.later iM).mod jJ (bl λ q I ag=>by have:=I9 q I;have:=ou q I;omega);refine aq Z (λ _=>cl k underlying22 dg Z Z (qI.has.bT (aV k)) Z (by omega))<|dT Z (λ _ x=>ax Z (J.aK.fh fY ((qI.later x).has.cD (aV k)) (dt (l:=gR W l) (u:=0) (by omega)) Z aT))<|aq Z (λ _=>kx Z Z gD)<|aq Z (λ _=>aj S1 Z)<|dE Z Z Z λ Mb gz Q hK=>dU Z Z (oz.later gz) Z dg Z Z λ ad4 py oz=>hK _ _ ?_;have:=gz.size;have vy:=γ Aa gz;have:=py.size;have Jy:=Ext.mod vy py bo;refine fn λ V4 gT=> ?_;have:=gT.size;have ur:=γ Jy gT;refine aX<|aw<|aa (aj S1 Z)<| ?_;have oz:=oz.later gT;refine bk Z oz aT Z<|aa (gO Z Z)<|aC<| ?_;refine en Z (λ vW=> ?_) (λ vW=> ?_)
   ·refine rg<|vm Z<|aa (ax Z (oz.all AW lJ))<|c7 (e:= 57) (cs:= [Φ ((W.ao.getD k default).id),Φ ((W.ao.getD k default).owner),Φ ((W.ao.getD k default).kind),Φ ((W.ao.getD k default).spot.x),Φ ((W.ao.getD k default).spot.y),Φ (((W.ao.getD k default).dW) - ((gR W l).getD k 0)),Φ ((W.ao.getD k default).load)]) Z (λ _=>by kernel_rfl) Z λ Qs aPU Js aT8 afg=> ?_;have yq:=γ ur Js;have aWC:=afg.lt;have yI:=((((yI.later iM).mod jJ (bU I_)).later gz).mod py (bU I_)).later (γ gT Js);refine ap asF J.dQ yI (aM.gu (R:=bj.rep) (by_:=56) (q:=(⟨(W.ao.getD k default).id,(W.ao.getD k default).owner,(W.ao.getD k default).kind,⟨(W.ao.getD k default).spot.x,(W.ao.getD k default).spot.y⟩,((W.ao.getD k default).dW) - ((gR W l).getD k 0),(W.ao.getD k default).load⟩:bj)) afg ⟨Z,by obtain ⟨qm,nn,oX,pA,ry,Lr,PO⟩:=di k;exact ⟨qm,nn,oX,pA,ry,cN,PO⟩⟩ (by decide)) Z Z (by simp only [aYc,aYh];omega) (by simp only [aYc,aYh];omega) yq.size Z λ V8 arv av2 mX atr N9 aVi=> ?_;have D':=Ext.mod yq mX (λ q I=>(yI.lt q I).1);refine va Z<|nl<|b1<|eM Z Z Z<| ?_;have aW:sq W.ao (gR W l) (k+1)=sq W.ao (gR W l) k++ [(⟨(W.ao.getD k default).id,(W.ao.getD k default).owner,(W.ao.getD k default).kind,⟨(W.ao.getD k default).spot.x,(W.ao.getD k default).spot.y⟩,((W.ao.getD k default).dW) - ((gR W l).getD k 0),(W.ao.getD k default).load⟩:bj)]:=by rw [aFw vW];try rfl
    have bb:r_ W.ao (gR W l) (k+1)=r_ W.ao (gR W l) k:=by rw [aAq vW];try rfl
    have ae:=(((((ae.later iM).mod jJ aO).later gz).mod py aO).later (γ gT Js)).mod mX (λ I=>yX _ I rfl);have ar:=(((((ar.later iM).mod jJ aO).later gz).mod py aO).later (γ gT Js)).mod mX (λ I=>AM _ I rfl);have qI:=(((qI.later gz).mod py (bl λ q I ag=>by have:=I9 q I;have:=ou q I;omega)).later (γ gT Js)).mod mX (cQ Kb);have bq:=(((((bq.later iM).mod jJ (bl λ q I ag=>by have:=BE q I;have:=DJ q I;omega)).later gz).mod py (bl λ q I ag=>by have:=BE q I;have:=DJ q I;omega)).later (γ gT Js)).mod mX (cQ AN);have ct:=(((((ct.later iM).mod jJ (bU LX)).later gz).mod py (bU LX)).later (γ gT Js)).mod mX NK;exact om _ _ ⟨k+1,arv,av2,eP,Nx,Z,Z,D',ae,ar,qI,bq,(by rw [aW];exact atr),(by rw [bb];exact ct),by omega,(fJ N9 yX),(fJ N9 AM),(λ q I ag=>by (exact aYC (N9 q I) (λ Pd=>by (exact AN q Pd ag)) (λ Pd=>by (have:=BE q ag;have:=DJ q ag;omega)))),(λ q I ag=>by (exact aYC (N9 q I) (λ alB=>by (exact Kb q alB ag)) (λ alB=>by (have:=I9 q ag;have:=ou q ag;omega)))),xl,EY,HB,NJ,(cQ (hh N9 (cQ NK) LX))⟩ (by omega) (.cons Z (.cons Z (.cons Z (.cons Z (.cons Z (.cons (by rw [bb];rfl) (.cons (by rw [aW];rfl) (eO Z Z Z))))))))
   ·refine rg<|vm Z<|aa (aj Kl Z)<|bk Z oz aT Z<|c7 (e:= 3) (cs:= [Φ ((W.ao.getD k default).id)]) Z (λ _=>by kernel_rfl) Z λ VV auC m1 aEY Ms=> ?_;have BN:=γ ur m1;have aIf:=Ms.lt;have ct:=((((ct.later iM).mod jJ (bU LX)).later gz).mod py (bU LX)).later (γ gT m1);refine ap asG J.dQ ct (aM.gu (R:=bu) (by_:=8) (q:=(W.ao.getD k default).id) Ms ⟨Z,(di k).1⟩ (by decide)) Z Z (by simp only [aYc,aYh];omega) (by simp only [aYc,aYh];omega) BN.size Z λ aLq aqW avy IC as3 N4 aUI=> ?_;have ael:=Ext.mod BN IC (λ q I=>(ct.lt q I).1);refine va Z<|nl<|b1<|eM Z Z Z<| ?_;have aW:sq W.ao (gR W l) (k+1)=sq W.ao (gR W l) k:=by rw [aFv vW];try rfl
    have bb:r_ W.ao (gR W l) (k+1)=r_ W.ao (gR W l) k++ [(W.ao.getD k default).id]:=by rw [aAp vW];try rfl
    have ae:=(((((ae.later iM).mod jJ aO).later gz).mod py aO).later (γ gT m1)).mod IC (λ I=>xl _ I rfl);have ar:=(((((ar.later iM).mod jJ aO).later gz).mod py aO).later (γ gT m1)).mod IC (λ I=>EY _ I rfl);have qI:=(((qI.later gz).mod py (bl λ q I ag=>by have:=I9 q I;have:=ou q I;omega)).later (γ gT m1)).mod IC (cQ NJ);have bq:=(((((bq.later iM).mod jJ (bl λ q I ag=>by have:=BE q I;have:=DJ q I;omega)).later gz).mod py (bl λ q I ag=>by have:=BE q I;have:=DJ q I;omega)).later (γ gT m1)).mod IC (cQ HB);have yI:=(((((yI.later iM).mod jJ (bU I_)).later gz).mod py (bU I_)).later (γ gT m1)).mod IC (cQ NK);exact om _ _ ⟨k+1,sN,yU,aqW,avy,Z,Z,ael,ae,ar,qI,bq,(by rw [aW];exact yI),(by rw [bb];exact as3),by omega,yX,AM,AN,Kb,(fJ N4 xl),(fJ N4 EY),(λ q I ag=>by (exact aYC (N4 q I) (λ alC=>by (exact HB q alC ag)) (λ alC=>by (have:=BE q ag;have:=DJ q ag;omega)))),(λ q I ag=>by (exact aYC (N4 q I) (λ alD=>by (exact NJ q alD ag)) (λ alD=>by (have:=I9 q ag;have:=ou q ag;omega)))),(hh N4 NK I_)⟩ (by omega) (.cons Z (.cons Z (.cons Z (.cons Z (.cons Z (.cons (by rw [bb];rfl) (.cons (by rw [aW];rfl) (eO Z Z Z))))))))
  ·refine dn<|dk<|dG<|dj<|aX<|aB Z<|aa (aj ld Z)<|dU Z Z ae Z NY Z Z λ aLv PG ae=> ?_;have aeo:=Ext.mod qB PG bo;refine aC<|aw<|aa (ax Z (ae.all dz cd))<|vm Z<| ?_;have ar:=ar.mod PG aO;refine cF Z Z ar Z cd Z Z λ apZ IE ar=> ?_;have QJ:=Ext.mod aeo IE bo;refine va Z<|aY Z<|cz (.cell Z (ar.all dz cd) (.tmp Z (.tmp Z .nil)))<| ?_;have bq:=(bq.mod PG (bz abY)).mod IE (bz abY);have yI:=(yI.mod PG (bl yX)).mod IE (bl AM);have ct:=(ct.mod PG (bl xl)).mod IE (bl EY);obtain ⟨aW,bb⟩:=adB xy (k:=k) (by omega);have cB:=bH.aGF (bq.down (by omega)) yI AN;refine ⟨{b2 with T:=sN,t:=yU},eP,Nx,by rw [xy,aW,bb];rfl,by rw [aW];exact cB,by rw [bb];exact ct,λ q I=> ?_,QJ⟩;intro hf;rcases azW hf with κ | κ
   ·exfalso;(exact HB q I κ)
   ·exfalso;(exact NK q I κ)
end
section
variable {α:Type} {by_ c k:Nat} {w:World} {A:Option Addr} {t:bj} {l:List eQ} {f:aL}
theorem asU:ez prog bu 22 3 8:=ez.ki (z:=Φ 0) (k:=1) underlying22 xI rfl rfl (by decide) (λ j u h=>Bw j u h)
theorem J.aK.Uj {R:J α} {w':World} {l:List α} {F:List Nat} (h:R.aK by_ w A c l) (hp:R.Plain) (m:Mod F w w') (d:0<l.length→∀ q∈J.ab A,q∉F):R.aK by_ w' A c l:=by
 obtain ⟨κ,τ,au,aU,ess,bN,cq,ew⟩:=h;refine ⟨κ,τ,au,aU,ess,bN.imp (λ es a _ h=>R.u' (R.rA (hp (B:=0) h) (by simp))),cq,λ aG=> ?_⟩;obtain ⟨b,o,rfl,hc⟩:=ew aG;refine ⟨b,o,Z,λ j u hu=> ?_⟩;have gB:=hc j u hu;have ag:b<w.heap.size:=by
  apply aZN;intro hn;have:w.heap[b]? =none:=aZg (by omega);simp [World.cell?,this] at gB
 have ak:=m.block b ag (d aG b (by simp [J.ab]));simp only [World.cell?] at gB ⊢;rw [ak];exact gB
theorem Sj {T:List az} (h:az.rep.aK 16 w A c T) (k:Nat):(T.getD k default).ok:=by
 rw [aX7];cases aH:T[k]? with
 | none=>exact ⟨by decide,by decide⟩
 | some t=>exact h.AB (λ eI=>(show _∧_ from eI).2) t (aYR aH)
theorem Vt (h:t.ok):t.spot.ok:=by
 obtain ⟨κ,τ,au,aU,bN,cq,ew⟩:=h;exact ⟨aU,bN⟩
theorem aKg {c:az} (h:t.ok) (hc:c.ok):(t.bp c).ok:=by
 obtain ⟨κ,τ,au,aU,bN,cq,ew⟩:=h;exact ⟨κ,τ,au,hc.1,hc.2,cq,ew⟩
theorem aAn {id:Int} (h:¬ fC l id<0):0≤fC l id∧(fC l id).toNat<l.length:=by
 rcases aAm l id with ⟨κ,_⟩ | ⟨k,κ,τ,_⟩<;>omega
theorem apa {T:List bj} (h:fC l (T.getD k default).id<0):sz f l T k=none:=by unfold sz;rw [aYq h]
theorem aJQ {T:List bj} (aG:0≤fC l (T.getD k default).id)
  (h:(ib f (T.getD k default).spot (l.getD (fC l (T.getD k default).id).toNat default).bp≠0∨((gX f (T.getD k default).spot (l.getD (fC l (T.getD k default).id).toNat default).bp).length:Int)<2)∨0<kk T ((gX f (T.getD k default).spot (l.getD (fC l (T.getD k default).id).toNat default).bp).getD 1 default)):sz f l T k=none:=by
 unfold sz;rw [aYi (by omega)];split
 ·rfl
 ·split
  ·rfl
  ·rw [aYq];rcases h with (h | h) | h
   ·contradiction
   ·omega
   ·exact h
theorem aJR {T:List bj} (aG:0≤fC l (T.getD k default).id)
  (h:(ib f (T.getD k default).spot (l.getD (fC l (T.getD k default).id).toNat default).bp=0∧2≤((gX f (T.getD k default).spot (l.getD (fC l (T.getD k default).id).toNat default).bp).length:Int))∧kk T ((gX f (T.getD k default).spot (l.getD (fC l (T.getD k default).id).toNat default).bp).getD 1 default)≤0):
  sz f l T k=some ((gX f (T.getD k default).spot (l.getD (fC l (T.getD k default).id).toNat default).bp).getD 1 default):=by
 obtain ⟨⟨κ,τ⟩,au⟩:=h;unfold sz;rw [aYi (by omega),aYi (by simpa using κ),aYi (by omega),aYi (by omega)]
theorem J.aK.aFW {R:J α} {l:List α} (h:R.aK by_ w A c l) (hs:0<R.size) (aG:0<l.length):∀ q∈J.ab A,q<w.heap.size:=by
 obtain ⟨κ,τ,au,aU,ess,bN,cq,ew⟩:=h;obtain ⟨b,o,rfl,hc⟩:=ew aG;intro q I;obtain rfl:q=b:=by simpa [J.ab] using I
 have ah:0<ess.flatten.length:=by rw [cq];exact Nat.mul_pos aG hs
 have gB:=hc 0 _ (aYb ah);apply aZN;intro hn;have:w.heap[q]? =none:=aZg (by omega);simp [World.cell?,this] at gB
theorem aD3 (ef:FuncId) (cs:List Value) (p:eQ→Bool) (A:Option Addr) (c:Nat) (l:List eQ) (w:World) (ah:eQ.rep.aK 24 w A c l) (ll:Enters prog ef) (gq:∀ x∈l,∀ w',Ext w w'→Calls prog ef (([.agg #[Φ x.id,Φ x.bp.x,Φ x.bp.y]]:List Value)++cs).toArray w' λ e lx=>e= .returned (.bool (p x))∧Ext w' lx):
  Calls prog 102 #[.slice A l.length c, .func (.func ef) #[] cs.toArray] w (λ e w'=>e= .returned (Φ (gY p l))∧Ext w w'):=by
 have tD:=ah.fa;refine ch (n:=19) func102 Z Z Z ?_;refine aw<|aJ Z<|av<|aB Z<|aa (b5 underlying102 Z)<|vm Z<|aC<|bJ<| ?_;refine eV (λ cp cn aP=>∃ k:Nat,cn= [(0, .slice A l.length c),(1, .func (.func ef) #[] cs.toArray),(7,Φ (l.length:Int)),(8,Φ (k:Int))]∧cp=l.length - k∧Ext w aP∧(k≤l.length)∧(∀ i,i<k→p (l.getD i default)=false)) _ _ ⟨0,Z,Z,(Ext.cH w),by omega,λ i hi=>by omega⟩ (eO Z Z Z) ?_;rintro Lh JI cG ⟨k,rfl,rfl,de,ak,aN⟩;refine aw<|dR Z Z<|aC<|av<| ?_;refine en Z (λ mv=> ?_) (λ mv=> ?_)
 ·refine bm<|av<|bJ<|aB Z<|aJ Z<|aB Z<|vm Z<|vm Z<|aa (cl k underlying102 Zf Z Z ((ah.keep de).bT (aV k)) Z (by omega))<|aa (ax Z (J.aK.iu ajV ((ah.keep de).cD (aV k)) (dt (l:=l) (u:=default) (by omega)) azo Zf))<|NB ll Z Z Z ((gq (l.getD k default) (jk (by omega)) _ de).mono ?_);rintro e Je ⟨rfl,rJ⟩;refine cu ?_;have mI:=γ de rJ;refine aC<| ?_;refine du Z (λ jD=> ?_) (λ jD=> ?_)
  ·refine aB Z<|aY Z<|eb<|bD<|m0<|eb<|bD<|b_ Z Z<| ?_;exact ⟨by have e:=O_ (p:=p) (l:=l) (d:=default) (k:=k) (by omega) jD aN;rw [e];rfl,mI⟩
  ·refine fu<|b1<|eM Z Z Z<| ?_;exact eJ ⟨k+1,Z,Z,mI,by omega,sr aN jD⟩
 ·refine dn<|dk<|dG<|dj<|aX<|aw<|aY Z<|b_ Z Z<| ?_;exact ⟨by have e:=O9 (p:=p) (l:=l) (d:=default) (λ i hi=>aN i (by omega));rw [e];rfl,de⟩
theorem aGg (x:eQ) (b k:Nat) (A:Option Addr) (c:Nat) (T:List bj) (w:World) (aI:aM w b [.pointer (some ⟨fN A,mA A+k * 7,none⟩)] 206 (0,0)) (cB:bj.rep.aK 56 w A c T) (ak:k<T.length):
  Calls prog 103 #[.agg #[Φ x.id,Φ x.bp.x,Φ x.bp.y], .pointer (bA b)] w (λ e w'=>e= .returned (.bool (x.id == (T.getD k default).id))∧Ext w w'):=by
 refine ch (n:=11) func103 Z Z Z ?_;refine dZ Z Z λ cG bB aR d' ae=> ?_;refine aJ Z<|av<| ?_;refine cO [(1,0),(2,0),(5,0)] [0,1,2,3,4,5,6,7] ?_;refine aq Z (λ _=>aj azp Z)<|cf Z Z ae aT Z<| ?_;have aI:=aI.later aR;refine cf Z Z aI Km Z<|aq Z (λ _=>bx Z)<|aq Z (λ _=>aj Kl Z)<|dT Z (λ _ x=>ax Z (J.aK.lg kC ((cB.keep (γ aR x)).cD (aV k)) 0 (dt (l:=T) (u:=default) (by omega)) Z aT))<|aq Z (λ _=>beq Z Z)<|aq Z (λ _=>ee Z)<|fn λ eC dm=> ?_;have bO:=γ aR dm;refine aX<|rt<|b_ Z Z<| ?_;exact ⟨Z,bO⟩
theorem aGf (b k:Nat) (l:List eQ) (A:Option Addr) (c:Nat) (RR:Option Addr) (tc:Nat) (T:List bj) (w:World) (ah:eQ.rep.aK 24 w A c l) (aI:aM w b [.pointer (some ⟨fN RR,mA RR+k * 7,none⟩)] 206 (0,0)) (cB:bj.rep.aK 56 w RR tc T) (ak:k<T.length):
  Calls prog 102 #[.slice A l.length c, .func (.func 103) #[] #[.pointer (bA b)]] w (λ e w'=>e= .returned (Φ (fC l (T.getD k default).id))∧Ext w w'):=
 aD3 103 [.pointer (bA b)] (λ g=>g.id == (T.getD k default).id) A c l w ah azq (λ x hx w' h=>aGg x b k RR tc T w' (aI.later h) (cB.keep h) ak)
theorem aJZ (w0:World) (a:ai.b7) (W:ai) (A:Option Addr) (c:Nat) (l:List eQ) (w:World) (cK:bu.aK 8 w a.P a.p W.field.a_) (cB:bj.rep.aF 57 56 w w0.heap.size (J.ab a.T) a.T a.t W.ao) (aBS:∀ q∈J.ab a.P,q∉J.ab a.T) (ah:eQ.rep.aK 24 w A c l) (KR:0<l.length→∀ q∈J.ab A,q∉J.ab a.T) (Ik:W.ao.length≤100000):
  Calls prog 61 #[.agg ((ai.cells a W).toArray), .slice A l.length c] w (λ e w'=>∃ bQ cc,e= .returned (.slice bQ (W.nv l).2.length cc)∧bu.aF 3 8 w' w.heap.size (J.ab bQ) bQ cc (W.nv l).2∧bj.rep.aF 57 56 w' w0.heap.size (J.ab a.T) a.T a.t (W.nv l).1.ao∧Mod (J.ab a.T) w w'):=by
 have pI:=bM cB.lt;have akM:=adH cB.has;refine ch (n:=110) func61 Z Z Z ?_;refine dZ Z Z λ cG bB aR d' ae=> ?_;have de:=(Mod.cH (J.ab a.T) w).trans (Mod.a8 aR);have hE:=ae.lt;refine aJ Z<|aw<|acm Z λ eC Bv bt hP asQ=> ?_;have bO:=de.trans (Mod.a8 bt);have arC:=lY.of_nil asQ;refine aJ Z<|av<|aw<|aa (aj ld Z)<| ?_;have ae:=ae.later bt;refine bk Z ae nb Z<|aa (b5 underlying26 Z)<|vm Z<|aC<|bJ<| ?_;have cB:=cB.later (γ aR bt);refine eV (λ cp cn aP=>∃ k:Nat,cn= [(1, .slice A l.length c),(2, .pointer (bA bB)),(4, .slice none 0 0),(5, .map (some Bv)),(17, .slice a.T W.ao.length a.t),(18,Φ (W.ao.length:Int)),(19,Φ (k:Int))]∧cp=W.ao.length - k∧Mod (J.ab a.T) w aP∧bj.rep.aF 57 56 aP w0.heap.size (J.ab a.T) a.T a.t (W.ao)∧aM aP bB (ai.cells a W) 28 (0,0)∧lY aP Bv (kk (W.ao.take k))∧(k≤W.ao.length)) _ _ ⟨0,Z,Z,bO,cB,ae,arC,by omega⟩ (eO Z Z Z) ?_;rintro wk aN1 wD ⟨k,rfl,rfl,jq,cB,ae,jt,ak⟩;have Qj:=bM cB.lt;have xX:=ae.lt;have aIk:=jt.lt;refine aw<|dR Z Z<|aC<|av<| ?_;refine en Z (λ vV=> ?_) (λ vV=> ?_)
 ·refine bm<|av<|bJ<|aw<|aa (cl k underlying26 lJ Z Z (cB.has.bT (aV k)) Z (by omega))<|aa (ax Z (J.aK.iu kC (cB.has.cD (aV k)) (dt (l:=W.ao) (u:=default) (by omega)) AW lJ))<|cU NW Z λ ua yQ cX amF ir=> ?_;have kM:=jq.trans (Mod.a8 cX);refine cF Z Z ir Z lJ Z Z λ ud jI ir=> ?_;have hI:=kM.md jI (λ q I=> .inr (by have:=aYf.1 I;omega));refine aC<| ?_;have jt:=(jt.later cX).mod jI aO;refine ac3 Bv (kk (W.ao.take k)) [(2,0),(3,0),(5,2),(7,3)] [0,1,2,3,4,5,6,7] (by kernel_rfl) (by kernel_rfl) ?_;refine uN Z Z (λ _=>gw Z) Z<|uN Z Z (λ _=>aj vT Z) Z<|E8 Z Z (λ _ x=>ax Z ((ir.mod x.1 aO).par [Φ ((W.ao.getD k default).spot.x),Φ ((W.ao.getD k default).spot.y)] cA b3 Z)) Z<|E8 Z Z (λ _ x=>Uu (p:=(W.ao.getD k default).spot) (x.2 jt) (Vt (akM k)) Z Z) Z<|uN Z Z (λ _=>bad Z Z (pk ((by have κ:=U2 (W.ao.take k) ((W.ao.getD k default).spot);(try rw [aYa] at κ);omega)))) Z<|ZF Z Z Z λ Gs nT Q hK=>meC (p:=(W.ao.getD k default).spot) (jt.later nT) (Vt (akM k)) Z Z Z λ vk aWQ rq W3=>hK _ _ ⟨(qK.a8 nT).trans ⟨rq,λ _=>W3.map⟩, ?_⟩;have oy:=hI.trans (Mod.a8 nT);have jr:=oy.md rq (λ q I=> .inr (by have:=aYf.1 I;omega));have aNC:=W3.map;refine uN Z Z (λ _=>ex Z Z) Z<|Zo Z Z Z λ Gt wM Q hK=>Zj (W3.later wM) Z Z Z λ BH oU WZ=>hK _ _ ?_;have rN:=jr.trans (Mod.a8 wM);have nA:=rN.md oU (λ q I=> .inr (by have:=aYf.1 I;omega));refine Zy λ DM lS=> ?_;have pR:=nA.trans (Mod.a8 lS);refine b1<|eM Z Z Z<| ?_;have cB:=((((((cB.later cX).mod jI (bl λ q I ag=>by have:=Qj q I;have:=pI q I;omega)).later nT).mod rq (bl λ q I ag=>by have:=Qj q I;have:=pI q I;omega)).later wM).mod oU (bl λ q I ag=>by have:=Qj q I;have:=pI q I;omega)).later lS;have ae:=((((((ae.later cX).mod jI aO).later nT).mod rq aO).later wM).mod oU aO).later lS;have WZ:=WZ.later lS;exact eJ ⟨k+1,Z,Z,pR,cB,ae,(by rw [aGV (by omega)];exact WZ),by omega⟩
 ·refine dn<|dk<|dG<|dj<|aX<|aw<|aJ Z<|av<|aw<|aa (aj ld Z)<|bk Z ae nb Z<|aa (b5 underlying26 Z)<|vm Z<|aC<|bJ<| ?_;have mr:k=W.ao.length:=by omega
  subst mr;have afK:lY wD Bv (kk W.ao):=by have h:=jt;rw [aYS] at h;exact h
  refine eV (λ cp cn aP=>∃ k:Nat,∃ T:List bj,∃ M:List Int,∃ Ad:Option Addr,∃ J':Nat,cn= [(1, .slice A l.length c),(2, .pointer (bA bB)),(4, .slice none 0 0),(5, .map (some Bv)),(8, .slice Ad M.length J'),(33,Φ (W.ao.length:Int)),(34,Φ (k:Int))]∧cp=W.ao.length - k∧Mod (J.ab a.T) w aP∧aM aP bB (ai.cells a W) 28 (0,0)∧lY aP Bv (kk T)∧bj.rep.aF 57 56 aP w0.heap.size (J.ab a.T) a.T a.t (T)∧bu.aF 3 8 aP w.heap.size (J.ab Ad) Ad J' (M)∧(k≤W.ao.length)∧(kZ W.field l W.ao k=(T,M))∧(T.length=W.ao.length)∧(M.length≤k)∧(∀ q∈J.ab a.T,q=bB→False)∧(∀ q∈J.ab a.T,q=Bv→False)∧(∀ q∈J.ab Ad,q=bB→False)∧(∀ q∈J.ab Ad,q=Bv→False)∧(∀ q∈J.ab Ad,q∈J.ab a.T→False)) _ _ ⟨0,W.ao, [],none,0,Z,Z,jq,ae,afK,cB,(J.aF.nil _),by omega,rfl,rfl,by simp,(λ q I ag=>by (have:=Qj q I;have:=pI q I;omega)),(λ q I ag=>by (have:=Qj q I;have:=pI q I;omega)),(λ q I ag=>by (simp [J.ab] at I)),(λ q I ag=>by (simp [J.ab] at I)),(λ q I ag=>by (simp [J.ab] at I))⟩ (eO Z Z Z) ?_;rintro IJ aOh L7 ⟨k,T,M,Ad,J',rfl,rfl,sK,ae,M2,jb,wX,ak,hS,aag,aRp,oG,s3,vQ,o',pa⟩;have aWn:=ae.lt;have aWo:=M2.lt;have adS:=bM jb.lt;have adT:=bM wX.lt;have TZ:=adH jb.has;refine aw<|dR Z Z<|aC<|av<| ?_;refine en Z (λ Ot=> ?_) (λ Ot=> ?_)
  ·refine bm<|av<|bJ<|aB Z<|aJ Z<|aw<|aa (aj ld Z)<|bk Z ae nb Z<|vm Z<|aa (cl k underlying26 lJ Z Z (jb.has.bT (aV k)) Z (by omega))<|cU azr Z λ Qq agl iN aT1 nW=> ?_;have Aa:=sK.trans (Mod.a8 iN);have aol:=nW.lt;refine st (new:= [.pointer (some ⟨fN a.T,mA a.T+k * 7,none⟩)]) Z Z nW Z axH Z Z Z λ Mc FX nW=> ?_;have:=FX.size;have qD:=Aa.md FX (λ q I=> .inr (by have:=aYf.1 I;omega));refine aC<|aB Z<|aa (Ln Z Z)<| ?_;have jb:=(jb.later iN).mod FX (bU adS);refine cM axI Z (aGf agl k l A c a.T a.t T _ (ah.Uj (J.dQ).1 qD KR) nW jb.has (by omega)) λ V4 gT=> ?_;have:=gT.size;have ur:=qD.trans (Mod.a8 gT);refine aJ Z<|av<|aB Z<|dR Z Z<|aC<| ?_;refine en Z (λ vW=> ?_) (λ vW=> ?_)
   ·refine dn<|dk<|dj<|eM Z Z Z<| ?_;have dA:=nw (kW iN FX) gT;have ae:=ae.mod dA aO;have M2:=M2.mod dA aO;have jb:=jb.later gT;have wX:=wX.mod dA (bU adT);exact eJ ⟨k+1,T,M,Ad,J',Z,Z,ur,ae,M2,jb,wX,by omega,I4 hS (apa vW),aag,by omega,oG,s3,vQ,o',pa⟩
   ·obtain ⟨Ft,aaP⟩:=aAn vW;refine bm<|av<| ?_;refine cO [(1,0),(2,0),(5,0),(10,0),(11,2)] [0,1,2,3,4,5,6,7,8,9,10,11,12,13,14,15,16,17,18] ?_;refine aq Z (λ _=>aj r7 Z)<| ?_;have ae:=((ae.later iN).mod FX aO).later gT;refine dT Z (λ _ x=>ax Z ((ae.later x).par [Φ W.field.wide,Φ W.field.high, .slice a.P W.field.a_.length a.p] mo mq Z))<| ?_;have nW:=nW.later gT;refine cf Z Z nW Km Z<|aq Z (λ _=>bx Z)<|aq Z (λ _=>aj vT Z)<| ?_;have jb:=jb.later gT;refine dT Z (λ _ x=>ax Z (J.aK.part kC ((jb.later x).has.cD (aV k)) 3 (ds:= [Φ ((T.getD k default).spot.x),Φ ((T.getD k default).spot.y)]) (dt (l:=T) (u:=default) (by omega)) Z cA b3))<|a1 Z Z<|a1 Z Z<|aq Z (λ _=>cl ((fC l (T.getD k default).id).toNat) underlying102 Zf Z Z ((ah.Uj (J.dQ).1 ur KR).bT (aV ((fC l (T.getD k default).id).toNat))) (by omega) (by omega))<|aq Z (λ _=>aj axJ Z)<|dT Z (λ _ x=>ax Z (J.aK.part ajV ((ah.Uj (J.dQ).1 (ur.trans (Mod.a8 x)) KR).cD (aV ((fC l (T.getD k default).id).toNat))) 1 (ds:= [Φ ((l.getD ((fC l (T.getD k default).id).toNat) default).bp.x),Φ ((l.getD ((fC l (T.getD k default).id).toNat) default).bp.y)]) (dt (l:=l) (u:=default) (by omega)) Z cA b3))<|ff Z Z Z λ Qs iz Q hK=>ca axK Z Z ((aHA W.field ((T.getD k default).spot) ((l.getD ((fC l (T.getD k default).id).toNat) default).bp) _ _ _ (cK.Uj (J.dQ).1 (ur.trans (Mod.a8 iz)) (λ _=>aBS))).mono ?_);rintro e Md ⟨aO7,aX6,rfl,Av,rL⟩;refine ⟨_,Z,hK _ _ ⟨γ iz rL, ?_⟩⟩;have:=iz.size;have yq:=ur.trans (Mod.a8 iz);have:=rL.size;have vz:=yq.trans (Mod.a8 rL);have am2:=dx Av.lt;have Ua:=Av.has;refine a1 Z Z<|aq Z (λ _=>ex Z Z)<|aq Z (λ _=>ex Z Z)<|aq Z (λ _=>ex Z Z)<|aq Z (λ _=>ee Z)<|aq Z (λ _=>ee Z)<|aq Z (λ _=>ee Z)<|fn λ Ji kL=> ?_;have:=kL.size;have sL:=vz.trans (Mod.a8 kL);refine aX<|av<|aB Z<|cS Z Z<|vm Z<|ec Z Z<|bh Z (λ hc=>b5 underlying25 (gt hc Z))<|bh Z (λ hc=>blt (gt hc Z) Z)<|aa (eW Z Z Z Z)<|vm Z<|ec Z Z<|ec Z Z<| ?_;have Av:=Av.later kL;refine bh Z (λ hc=>cl 1 underlying25 b3 (gt hc Z) Z (Av.has.bT (aV 1 (by (try simp only [bn] at hc);omega))) Z (by (try simp only [bn] at hc);omega))<|bh Z (λ hc=>ax (gt hc Z) (J.aK.iu y9 (Av.has.cD (aV 1 (by (try simp only [bn] at hc);omega))) (dt (l:=gX W.field ((T.getD k default).spot) ((l.getD ((fC l (T.getD k default).id).toNat) default).bp)) (u:=default) (by (try simp only [bn] at hc);omega)) cA b3))<| ?_;have M2:=((M2.later iN).mod FX aO).later (γ gT (γ iz (γ rL kL)));refine bh Z (λ hc=>Uu (p:=(gX W.field ((T.getD k default).spot) ((l.getD ((fC l (T.getD k default).id).toNat) default).bp)).getD 1 default) M2 (Sj Ua 1) (gt hc Z) (gt hc Z))<|bh Z (λ hc=>gO (gt hc Z) Z)<|aa (eW Z Z Z Z)<|aC<| ?_;refine du Z (λ H0=> ?_) (λ H0=> ?_)
    ·simp only [bn] at H0;refine dn<|dk<|dj<|eM Z Z Z<| ?_;have gG:=(γ iz (γ rL kL));have ae:=ae.later gG;have jb:=jb.later gG;have wX:=((wX.later iN).mod FX (bU adT)).later (γ gT (γ iz (γ rL kL)));exact eJ ⟨k+1,T,M,Ad,J',Z,Z,sL,ae,M2,jb,wX,by omega,I4 hS (aJQ (by omega) H0),aag,by omega,oG,s3,vQ,o',pa⟩
    ·simp only [bn] at H0;refine bm<|av<| ?_;refine ac3 Bv (kk T) [(1,0),(4,0),(5,0),(7,2),(9,3)] [0,1,2,3,4,5,6,7,8,9] (by kernel_rfl) (by kernel_rfl) ?_;refine uN Z Z (λ _=>gw Z) Z<| ?_;have nW:=nW.later (γ iz (γ rL kL));refine E8 Z Z (λ _ x=>ax Z ((nW.mod x.1 aO).one Km Z)) Z<|uN Z Z (λ _=>bx Z) Z<|uN Z Z (λ _=>aj vT Z) Z<| ?_;have jb:=jb.later (γ iz (γ rL kL));refine E8 Z Z (λ _ x=>ax Z (J.aK.part kC ((jb.mod x.1 (bl s3)).has.cD (aV k)) 3 (ds:= [Φ ((T.getD k default).spot.x),Φ ((T.getD k default).spot.y)]) (dt (l:=T) (u:=default) (by omega)) Z cA b3)) Z<|E8 Z Z (λ _ x=>Uu (p:=(T.getD k default).spot) (x.2 M2) (Vt (TZ k)) Z Z) Z<|uN Z Z (λ _=>kx Z Z (pk ((by have κ:=U2 T ((T.getD k default).spot);(try rw [aYa] at κ);omega)))) Z<|ZF Z Z Z λ Me kr Q hK=>meC (p:=(T.getD k default).spot) (M2.later kr) (Vt (TZ k)) Z Z Z λ apU aWO lq W1=>hK _ _ ⟨(qK.a8 kr).trans ⟨lq,λ _=>W1.map⟩, ?_⟩;have:=kr.size;have wR:=sL.trans (Mod.a8 kr);have:=lq.size;have Mj:=wR.md lq (λ q I=> .inr (by have:=aYf.1 I;omega));have aNA:=W1.map;refine uN Z Z (λ _=>ex Z Z) Z<|Zo Z Z Z λ aLo m1 Q hK=>Zj (W1.later m1) Z Z Z λ aLp su Q1=>hK _ _ ?_;have:=m1.size;have aej:=Mj.trans (Mod.a8 m1);have:=su.size;have aek:=aej.md su (λ q I=> .inr (by have:=aYf.1 I;omega));refine Zy λ apW GA=> ?_;have:=GA.size;have GK:=aek.trans (Mod.a8 GA);refine aX<|av<| ?_;refine cO [(0,0),(3,0),(6,3)] [0,1,2,3,4,5,6] ?_;have nW:=((((nW.later kr).mod lq aO).later m1).mod su aO).later GA;refine cf Z Z nW Km Z<|a1 Z Z<| ?_;have Av:=((((Av.later kr).mod lq (bz am2)).later m1).mod su (bz am2)).later GA;refine aq Z (λ _=>cl 1 underlying25 b3 Z Z (Av.has.bT (aV 1)) Z (by omega))<|dT Z (λ _ x=>ax Z (J.aK.iu y9 ((Av.later x).has.cD (aV 1)) (dt (l:=gX W.field ((T.getD k default).spot) ((l.getD ((fC l (T.getD k default).id).toNat) default).bp)) (u:=default) (by omega)) cA b3))<|aq Z (λ _=>bx Z)<|aq Z (λ _=>aj vT Z)<| ?_;have jb:=((((jb.later kr).mod lq (bl s3)).later m1).mod su (bl s3)).later GA;refine dE Z Z Z λ VW Jm Q hK=>aJD (q:=(T).getD k default) (q':=(⟨((T).getD k default).id,((T).getD k default).owner,((T).getD k default).kind,⟨((gX W.field ((T.getD k default).spot) ((l.getD ((fC l (T.getD k default).id).toNat) default).bp)).getD 1 default).x,((gX W.field ((T.getD k default).spot) ((l.getD ((fC l (T.getD k default).id).toNat) default).bp)).getD 1 default).y⟩,((T).getD k default).dW,((T).getD k default).load⟩:bj)) (i:=k) (j:=3) (old:= [Φ (((T).getD k default).id),Φ (((T).getD k default).owner),Φ (((T).getD k default).kind),Φ (((T).getD k default).spot.x),Φ (((T).getD k default).spot.y),Φ (((T).getD k default).dW),Φ (((T).getD k default).load)]) (part:= [Φ (((gX W.field ((T.getD k default).spot) ((l.getD ((fC l (T.getD k default).id).toNat) default).bp)).getD 1 default).x),Φ (((gX W.field ((T.getD k default).spot) ((l.getD ((fC l (T.getD k default).id).toNat) default).bp)).getD 1 default).y)]) (jb.later Jm) J.dQ (dt (l:=T) (u:=default) (by omega)) kC Z Z Z Z Z Z (λ _=>⟨Z,(aKg (TZ k) (Sj Ua 1))⟩) b3 λ aXd Lf Cl=>hK _ _ ?_;have:=Jm.size;have vv:=GK.trans (Mod.a8 Jm);have:=Lf.size;have aMx:=vv.md Lf (λ q I=> .inl I);refine fn λ aXg Jp=> ?_;have:=Jp.size;have aMA:=aMx.trans (Mod.a8 Jp);refine aX<|av<| ?_;have Q1:=((Q1.later (γ GA Jm)).mod Lf (λ I=>s3 _ I rfl)).later Jp;refine ac3 Bv (vg (kk T) ((T.getD k default).spot) (((kk T) ((T.getD k default).spot)) - 1)) [(1,0),(4,0),(5,0),(7,2),(9,3)] [0,1,2,3,4,5,6,7,8,9] (by kernel_rfl) (by kernel_rfl) ?_;refine uN Z Z (λ _=>gw Z) Z<| ?_;have nW:=nW.later Jm;have awN:∀ q∈J.ab a.T,q=agl→False:=λ q I ag=>by (have:=adS q I;omega)
     have nW:=(nW.mod Lf (λ I=>awN _ I rfl)).later Jp;refine E8 Z Z (λ _ x=>ax Z ((nW.mod x.1 aO).one Km Z)) Z<|uN Z Z (λ _=>bx Z) Z<|uN Z Z (λ _=>aj vT Z) Z<| ?_;have Cl:=Cl.later Jp;refine E8 Z Z (λ _ x=>ax Z (J.aK.part kC ((Cl.mod x.1 (bl s3)).has.cD (aV k (by rw [aYn];omega))) 3 (ds:= [Φ (((T.getD k default).bp ((gX W.field (T.getD k default).spot (l.getD (fC l (T.getD k default).id).toNat default).bp).getD 1 default)).spot.x),Φ (((T.getD k default).bp ((gX W.field (T.getD k default).spot (l.getD (fC l (T.getD k default).id).toNat default).bp).getD 1 default)).spot.y)]) (aYz (by omega)) Z cA b3)) Z<|E8 Z Z (λ _ x=>Uu (p:=((T.getD k default).bp ((gX W.field (T.getD k default).spot (l.getD (fC l (T.getD k default).id).toNat default).bp).getD 1 default)).spot) (x.2 Q1) (Sj Ua 1) Z Z) Z<|uN Z Z (λ _=>bad Z Z (pk ((by have aG:=U2 T ((T.getD k default).spot);have κ:=aKR (x:=((T.getD k default).spot)) (v:=(((kk T) ((T.getD k default).spot)) - 1)) (U2 T) (by omega) (by omega) (((T.getD k default).bp ((gX W.field (T.getD k default).spot (l.getD (fC l (T.getD k default).id).toNat default).bp).getD 1 default)).spot);omega)))) Z<|ZF Z Z Z λ apY ov Q hK=>meC (p:=((T.getD k default).bp ((gX W.field (T.getD k default).spot (l.getD (fC l (T.getD k default).id).toNat default).bp).getD 1 default)).spot) (Q1.later ov) (Sj Ua 1) Z Z Z λ apZ aWP IF W2=>hK _ _ ⟨(qK.a8 ov).trans ⟨IF,λ _=>W2.map⟩, ?_⟩;have:=ov.size;have QI:=aMA.trans (Mod.a8 ov);have:=IF.size;have QJ:=QI.md IF (λ q I=> .inr (by have:=aYf.1 I;omega));have aNB:=W2.map;refine uN Z Z (λ _=>ex Z Z) Z<|Zo Z Z Z λ aLx Jq Q hK=>Zj (W2.later Jq) Z Z Z λ aLy Bi Q2=>hK _ _ ?_;have:=Jq.size;have aep:=QJ.trans (Mod.a8 Jq);have:=Bi.size;have aeq:=aep.md Bi (λ q I=> .inr (by have:=aYf.1 I;omega));have aVR:=Q2.lt;refine Zy λ aXm z1=> ?_;have:=z1.size;have aMF:=aeq.trans (Mod.a8 z1);refine aX<|rg<|vm Z<| ?_;have nW:=((((nW.later ov).mod IF aO).later Jq).mod Bi aO).later z1;refine bk Z nW Km Z<|aa (bx Z)<|aa (aj Kl Z)<| ?_;have Cl:=((((Cl.later ov).mod IF (bl s3)).later Jq).mod Bi (bl s3)).later z1;refine aa (ax Z (J.aK.lg kC (Cl.has.cD (aV k (by rw [aYn];omega))) 0 (aYz (by omega)) Z aT))<|c7 (e:= 3) (cs:= [Φ (((T.getD k default).bp ((gX W.field (T.getD k default).spot (l.getD (fC l (T.getD k default).id).toNat default).bp).getD 1 default)).id)]) Z (λ _=>by kernel_rfl) Z λ ap5 auE yg aEZ Mt=> ?_;have QM:=aMF.trans (Mod.a8 yg);have aIh:=Mt.lt;have wX:=((((((((((((wX.later iN).mod FX (bU adT)).later (γ gT (γ iz (γ rL (γ kL kr))))).mod lq (bl o')).later m1).mod su (bl o')).later (γ GA Jm)).mod Lf pa).later (γ Jp ov)).mod IF (bl o')).later Jq).mod Bi (bl o')).later (γ z1 yg);refine ap asU J.dQ wX (aM.gu (R:=bu) (by_:=8) (q:=((T.getD k default).bp ((gX W.field (T.getD k default).spot (l.getD (fC l (T.getD k default).id).toNat default).bp).getD 1 default)).id) Mt ⟨Z,b8.2 (b8.1 (TZ k).1)⟩ (by decide)) Z Z (by simp only [aYc,aYh];omega) (by simp only [aYc,aYh];omega) (by omega) Z λ ap6 aq6 avH UK as9 ZJ aUS=> ?_;have QN:=QM.md UK (λ q I=> .inr ((λ q I=>aYF (by omega) (wX.lt q I).1) q I));refine va Z<|nl<|b1<|eM Z Z Z<| ?_;have aae:=Qd hS (aJR (by omega) H0);have ae:=(((((((((((ae.later (γ iz (γ rL (γ kL kr)))).mod lq aO).later m1).mod su aO).later (γ GA Jm)).mod Lf (λ I=>oG _ I rfl)).later (γ Jp ov)).mod IF aO).later Jq).mod Bi aO).later (γ z1 yg)).mod UK (λ I=>vQ _ I rfl);have Q2:=(Q2.later (γ z1 yg)).mod UK (λ I=>o' _ I rfl);have Cl:=(Cl.later yg).mod UK (cQ pa);exact eJ ⟨k+1,(T).set k ((⟨((T).getD k default).id,((T).getD k default).owner,((T).getD k default).kind,⟨((gX W.field ((T.getD k default).spot) ((l.getD ((fC l (T.getD k default).id).toNat) default).bp)).getD 1 default).x,((gX W.field ((T.getD k default).spot) ((l.getD ((fC l (T.getD k default).id).toNat) default).bp)).getD 1 default).y⟩,((T).getD k default).dW,((T).getD k default).load⟩:bj)),M++ [((T.getD k default).bp ((gX W.field (T.getD k default).spot (l.getD (fC l (T.getD k default).id).toNat default).bp).getD 1 default)).id],aq6,avH,Z,Z,QN,ae,(by rw [aGT (by omega)];exact Q2),Cl,as9,by omega,aae,by rw [aYn];exact aag,by rw [aX9,aYr];omega,oG,s3,(fJ ZJ vQ),(fJ ZJ o'),(hh ZJ pa adS)⟩
  ·refine dn<|dk<|dG<|dj<|aX<|aB Z<|aY Z<|b_ Z Z<| ?_;have mr:k=W.ao.length:=by omega
   subst mr;have aW:(W.nv l).2=M:=by show (kZ _ _ _ _).2=M;rw [hS]
   have bb:(W.nv l).1.ao=T:=by show (kZ _ _ _ _).1=T;rw [hS]
   exact ⟨Ad,J',by rw [aW];rfl,by rw [aW];exact wX,by rw [bb];exact jb,sK⟩
end
def aOs (W:ai) (p:bj→Bool) (w:World) (e:Ending) (w':World):Prop:=e= .returned (.tuple #[.int .i64 (aLV W p), .bool (aqj W p), .int .i64 W.a7])∧Below w.heap.size w w'
section
variable {w:World} {aA:Nat} {a:ai.b7} {l:List eQ}
theorem bH.aGt {w1:World} {W:ai} {l:List bj} (h:bH w aA a W) (m:Mod (J.ab a.T) w w1) (cB:bj.rep.aF 57 56 w1 aA (J.ab a.T) a.T a.t l):bH w1 aA a {W with ao:=l}:=by
 have hn:=(aY7.1 h.apart).2.2;have d:∀ q∈J.ab a.P++J.ab a.B++J.ab a.S++J.ab a.M,q∉J.ab a.T:=λ q I aH=>hn q I q aH rfl;exact ⟨h.P.mod m (λ q I=>d q (by simp [I])),h.B.mod m (λ q I=>d q (by simp [I])),h.S.mod m (λ q I=>d q (by simp [I])),h.M.mod m (λ q I=>d q (by simp [I])),cB,h.apart,h.nums⟩
theorem azV {W:ai} (h:bH w aA a W):∀ q∈J.ab a.P,q∉J.ab a.T:=λ q I aH=>(aY7.1 h.apart).2.2 q (by simp [I]) q aH rfl
theorem aGx (w0:World) (a:ai.b7) (W:ai) (A:Option Addr) (c:Nat) (l:List eQ) (w:World) (iv:bH w w0.heap.size a W) (ah:eQ.rep.aK 24 w A c l) (KR:0<l.length→∀ q∈J.ab A,q∉J.ab a.T) (Ik:W.ao.length≤100000):
  Calls prog 61 #[.agg (ai.cells a W).toArray, .slice A l.length c] w (λ e w'=>∃ bQ cc,e= .returned (.slice bQ (W.nv l).2.length cc)∧bu.aF 3 8 w' w.heap.size (J.ab bQ) bQ cc (W.nv l).2∧bH w' w0.heap.size a (W.nv l).1∧Mod (J.ab a.T) w w'):=by
 refine (aJZ w0 a W A c l w iv.P.has iv.T (azV iv) ah KR Ik).mono ?_;rintro e w' ⟨bQ,cc,rfl,κ,τ,au⟩;exact ⟨bQ,cc,Z,κ,iv.aGt au τ,au⟩
theorem apb (W:ai) (l:List eQ):(W.nv l).1.ao.length=W.ao.length:=(Vw _).1
theorem aJ0 (a:ai.b7) (W:ai) (l:List eQ):ai.cells a W=ai.cells a (W.nv l).1:=by
 unfold ai.cells;rw [apb];rfl
def tP (W:ai) (l:List eQ):Int:=if W.a7≠0 then W.a7 else if 200<l.length then 2 else 0
noncomputable def qk (W:ai) (l:List eQ):ai:=if tP W l≠0 then ai.zero else (W.nv l).1
noncomputable def tQ (W:ai) (l:List eQ):List Int:=if tP W l≠0 then [] else (W.nv l).2
theorem ank {W:ai} (h:¬ W.a7=0):tP W l=W.a7∧qk W l=ai.zero∧tQ W l= []:=by
 have e:tP W l=W.a7:=by unfold tP;rw [aYq h]
 unfold qk tQ;rw [e,aYq h,aYq h];exact ⟨Z,Z,Z⟩
theorem anl {W:ai} (h:W.a7=0) (ah:(200:Int)<(l.length:Int)):tP W l=2∧qk W l=ai.zero∧tQ W l= []:=by
 have e:tP W l=2:=by unfold tP;rw [aYi (by omega),aYq (by omega)]
 unfold qk tQ;rw [e];exact ⟨Z,Z,Z⟩
theorem UP {W:ai} (h:W.a7=0) (ah:(l.length:Int)≤200):tP W l=0∧qk W l=(W.nv l).1∧tQ W l=(W.nv l).2:=by
 have e:tP W l=0:=by unfold tP;rw [aYi (by omega),aYi (by omega)]
 unfold qk tQ;rw [e];exact ⟨Z,Z,Z⟩
noncomputable def aou (g:eQ):Nat→ai→Nat
 | 0,_=>0
 | n+1,W=>if (W.nv [g]).2.length=0 then 0 else aou g n (W.nv [g]).1+1
noncomputable def aov (g:eQ):Nat→ai→ai
 | 0,W=>W
 | n+1,W=>if (W.nv [g]).2.length=0 then (W.nv [g]).1 else aov g n (W.nv [g]).1
def aot (W:ai) (id n:Int):Int:=if W.a7≠0 then W.a7 else if n<0∨200<n then 1 else if aqj W (ig id)=false then 7 else 0
noncomputable def aWG (W:ai) (id:Int) (bp:az) (n:Int):ai:=if aot W id n≠0 then ai.zero else aov ⟨id,⟨bp.x,bp.y⟩⟩ n.toNat W
noncomputable def aWF (W:ai) (id:Int) (bp:az) (n:Int):Nat:=if aot W id n≠0 then 0 else aou ⟨id,⟨bp.x,bp.y⟩⟩ n.toNat W
theorem aGu (a:ai.b7) (W:ai) (w:World) (bZ:ai.Has w a W):
  Calls prog 60 #[.agg ((ai.cells a W).toArray)] w (λ e w'=>∃ a':ai.b7,e= .returned (.agg (ai.cells a' W).toArray)∧bH w' w.heap.size a' W∧Ext w w'):=by
 refine ch (n:=26) func60 Z Z Z ?_;refine dZ Z Z λ cG bB aR d' ae=> ?_;have hE:=ae.lt;refine cU nG Z λ eC cJ bt hP ar=> ?_;have:=bt.size;have bO:=γ aR bt;have mB:=ar.lt;refine aC<|aw<|aa (aj r7 Z)<|aa (aj y0 Z)<| ?_;have ae:=ae.later bt;refine bk Z ae c8 Z<|ca xp Z Z ((sZ _ _ W.field.a_ _ (bZ.P.keep bO)).mono ?_);rintro e t_ ⟨BQ,ES,rfl,yE,aCS,jo⟩;refine cu ?_;have:=jo.size;have iP:=γ bO jo;have ou:=bM yE.lt;have oe:=dx yE.lt;refine aa (aj r7 Z)<|aa (aj y0 Z)<| ?_;have ae:=ae.later jo;refine dU Z Z ae Z nH Z Z λ zT tM ae=> ?_;have:=tM.size;have k3:=Ext.mod iP tM bo;refine aC<|av<| ?_;refine cO [(1,0),(2,2),(4,0),(5,2),(7,3),(9,3)] [0,1,3,4,2,6,5,7,8,9] ?_;refine aq Z (λ _=>aj s8 Z)<|cf Z Z ae xq Z<|aq Z (λ _=>aj vU Z)<|cf Z Z ae c8 Z<|ff Z Z Z λ rF cX Q hK=>ca Zc Z Z ((Sp _ _ W.bf _ (bZ.B.keep (γ k3 cX))).mono ?_);rintro e BG ⟨WM,Ym,rfl,yF,aCV,ko⟩;refine ⟨_,Z,hK _ _ ⟨γ cX ko, ?_⟩⟩;have:=cX.size;have iA:=γ k3 cX;have:=ko.size;have o7:=γ iA ko;have BD:=bM yF.lt;have wh:=dx yF.lt;refine aq Z (λ _=>aj s8 Z)<|ff Z Z Z λ Jb ma Q hK=>ca xp Z Z ((sZ _ _ W.bE _ (bZ.S.keep (γ o7 ma))).mono ?_);rintro e wG ⟨Mq,Yn,rfl,yG,aCW,fE⟩;refine ⟨_,Z,hK _ _ ⟨γ ma fE, ?_⟩⟩;have:=ma.size;have sJ:=γ o7 ma;have:=fE.size;have mH:=γ sJ fE;have Qk:=bM yG.lt;have tI:=dx yG.lt;have ae:=ae.later (γ cX (γ ko (γ ma fE)));refine dE Z Z Z λ wH fF Q hK=>dU Z Z (ae.later fF) Z Zd Z Z λ Gt iH ae=>hK _ _ ?_;have:=fF.size;have j6:=γ mH fF;have:=iH.size;have rN:=Ext.mod j6 iH bo;refine aq Z (λ _=>aj vU Z)<|dE Z Z Z λ wI fv Q hK=>dU Z Z (ae.later fv) Z nH Z Z λ Jd iw ae=>hK _ _ ?_;have:=fv.size;have kt:=γ rN fv;have:=iw.size;have qB:=Ext.mod kt iw bo;refine fn λ ue fq=> ?_;have:=fq.size;have j7:=γ qB fq;refine aX<|av<| ?_;refine cO [(1,0),(2,2),(4,0),(5,2),(7,3),(9,3)] [0,1,3,4,2,6,5,7,8,9] ?_;refine aq Z (λ _=>aj AX Z)<| ?_;have ae:=ae.later fq;refine cf Z Z ae c8 Z<|aq Z (λ _=>aj ld Z)<|cf Z Z ae nb Z<|ff Z Z Z λ DN hX Q hK=>ca xp Z Z ((sZ _ _ W.bX _ (bZ.M.keep (γ j7 hX))).mono ?_);rintro e Jf ⟨WQ,AG,rfl,yH,aCX,hk⟩;refine ⟨_,Z,hK _ _ ⟨γ hX hk, ?_⟩⟩;have:=hX.size;have rP:=γ j7 hX;have:=hk.size;have qC:=γ rP hk;have adQ:=bM yH.lt;have wj:=dx yH.lt;refine aq Z (λ _=>aj AX Z)<|ff Z Z Z λ V3 i' Q hK=>ca Ze Z Z ((Sq _ _ W.ao _ (bZ.T.keep (γ qC i'))).mono ?_);rintro e Mb ⟨WR,Sg,rfl,Ci,aCY,gz⟩;refine ⟨_,Z,hK _ _ ⟨γ i' gz, ?_⟩⟩;have:=i'.size;have yo:=γ qC i';have vy:=γ yo gz;have tJ:=dx Ci.lt;have ae:=ae.later (γ hX (γ hk (γ i' gz)));refine dE Z Z Z λ ap9 rK Q hK=>dU Z Z (ae.later rK) Z nH Z Z λ DO jj ae=>hK _ _ ?_;have QP:=γ vy rK;have pT:=Ext.mod QP jj bo;refine aq Z (λ _=>aj ld Z)<|dE Z Z Z λ Qs iz Q hK=>dU Z Z (ae.later iz) Z NY Z Z λ Gv tO ae=>hK _ _ ?_;have yq:=γ pT iz;have lA:=Ext.mod yq tO bo;refine fn λ V8 hY=> ?_;have D':=γ lA hY;refine aX<|aw<| ?_;have ae:=ae.later hY;refine aa (ax Z (ae.all dz cd))<| ?_;have ar:=((((((((((ar.later jo).mod tM aO).later (γ cX (γ ko (γ ma (γ fE fF))))).mod iH aO).later fv).mod iw aO).later (γ fq (γ hX (γ hk (γ i' (γ gz rK)))))).mod jj aO).later iz).mod tO aO).later hY;refine cF Z Z ar Z cd Z Z λ V_ qj ar=> ?_;have Eb:=Ext.mod D' qj bo;refine sk<|cz (.cell Z (ar.all dz cd) .nil)<| ?_;have yE:=((((((((((yE.mod tM (bz oe)).later (γ cX (γ ko (γ ma (γ fE fF))))).mod iH (bz oe)).later fv).mod iw (bz oe)).later (γ fq (γ hX (γ hk (γ i' (γ gz rK)))))).mod jj (bz oe)).later iz).mod tO (bz oe)).later hY).mod qj (bz oe);have yF:=(((((((((yF.later (γ ma (γ fE fF))).mod iH (bz wh)).later fv).mod iw (bz wh)).later (γ fq (γ hX (γ hk (γ i' (γ gz rK)))))).mod jj (bz wh)).later iz).mod tO (bz wh)).later hY).mod qj (bz wh);have yG:=(((((((((yG.later fF).mod iH (bz tI)).later fv).mod iw (bz tI)).later (γ fq (γ hX (γ hk (γ i' (γ gz rK)))))).mod jj (bz tI)).later iz).mod tO (bz tI)).later hY).mod qj (bz tI);have yH:=(((((yH.later (γ i' (γ gz rK))).mod jj (bz wj)).later iz).mod tO (bz wj)).later hY).mod qj (bz wj);have Ci:=(((((Ci.later rK).mod jj (bz tJ)).later iz).mod tO (bz tJ)).later hY).mod qj (bz tJ);have hR:=bH.acx (aA:=w.heap.size) (yE.down (by omega)) (yF.down (by omega)) (yG.down (by omega)) (yH.down (by omega)) (Ci.down (by omega)) (λ q κ τ=>by exfalso;(have:=wh q κ;(have:=ou q τ;omega))) (λ q κ τ=>by exfalso;(have:=tI q κ;(have:=ou q τ;omega))) (λ q κ τ=>by exfalso;(have:=tI q κ;(have:=BD q τ;omega))) (λ q κ τ=>by exfalso;(have:=wj q κ;(have:=ou q τ;omega))) (λ q κ τ=>by exfalso;(have:=wj q κ;(have:=BD q τ;omega))) (λ q κ τ=>by exfalso;(have:=wj q κ;(have:=Qk q τ;omega))) (λ q κ τ=>by exfalso;(have:=tJ q κ;(have:=ou q τ;omega))) (λ q κ τ=>by exfalso;(have:=tJ q κ;(have:=BD q τ;omega))) (λ q κ τ=>by exfalso;(have:=tJ q κ;(have:=Qk q τ;omega))) (λ q κ τ=>by exfalso;(have:=tJ q κ;(have:=adQ q τ;omega))) bZ.nums;exact ⟨⟨BQ,WM,Mq,WQ,WR,ES,Ym,Yn,AG,Sg⟩,Z,hR,Eb⟩
theorem aGw (a:ai.b7) (W:ai) (A:Option Addr) (c:Nat) (l:List eQ) (w:World) (bZ:ai.Has w a W) (ah:eQ.rep.aK 24 w A c l):
  Calls prog 32 #[.agg ((ai.cells a W).toArray), .slice A l.length c] w (λ e w'=>∃ a' bQ cc,e= .returned (.tuple #[.agg (ai.cells a' (qk W l)).toArray, .slice bQ (tQ W l).length cc,Φ (tP W l)])∧bH w' w.heap.size a' (qk W l)∧bu.aF 3 8 w' w.heap.size (J.ab bQ) bQ cc (tQ W l)∧(∀ q∈J.ab bQ,q∉bH.cR a')∧Ext w w'):=by
 refine ch (n:=26) func32 Z Z Z ?_;refine dZ Z Z λ cG bB aR d' ae=> ?_;have hE:=ae.lt;refine cU nG Z λ eC cJ bt hP ar=> ?_;have bO:=γ aR bt;have mB:=ar.lt;refine va Z<|aJ Z<|av<|aw<| ?_;have ae:=ae.later bt;refine aa (ax Z (ae.all dz cd))<|cM Kk Z (EU a W _ (bZ.keep bO)) λ hG fD=> ?_;have:=fD.size;have c6:=γ bO fD;refine aJ Z<|aB Z<|cS Z Z<|aC<| ?_;refine eU Z (λ nd=> ?_) (λ nd=> ?_)
 ·refine aw<|aa (v:= .agg #[Φ 0,Φ 0, .slice none 0 0, .slice none 0 0, .slice none 0 0, .slice none 0 0, .slice none 0 0,Φ 0,Φ 0]) (eu Z)<|vm Z<| ?_;have ar:=ar.later fD;refine cF Z Z ar Z cd Z Z λ Gr pw ar=> ?_;have mF:=Ext.mod c6 pw bo;refine va Z<|aY Z<|bD<|cz (.cell Z (ar.all dz cd) (.tmp Z (.tmp Z .nil)))<| ?_;obtain ⟨aW,bb,df⟩:=ank (l:=l) nd;exact ⟨⟨none,none,none,none,none,0,0,0,0,0⟩,none,0,by rw [aW,bb,df];rfl,by rw [bb];exact bH.zero _ _,by rw [df];exact J.aF.nil _,λ q I=>by simp [J.ab] at I,mF⟩
 ·have bP:=Good.Dx nd;have Ik:=bP.dJ;refine bm<|av<|aB Z<|aa (b5 underlying102 Z)<|aa (gO Z Z)<|aC<| ?_;refine en Z (λ vV=> ?_) (λ vV=> ?_)
  ·refine aw<|aa (v:= .agg #[Φ 0,Φ 0, .slice none 0 0, .slice none 0 0, .slice none 0 0, .slice none 0 0, .slice none 0 0,Φ 0,Φ 0]) (eu Z)<| ?_;have ar:=ar.later fD;refine cF Z Z ar Z cd Z Z λ ua tN ar=> ?_;have kM:=Ext.mod c6 tN bo;refine va Z<|aY Z<|bD<|cz (.cell Z (ar.all dz cd) (.tmp Z (.tmp Z .nil)))<| ?_;obtain ⟨aW,bb,df⟩:=anl (l:=l) nd (by omega);exact ⟨⟨none,none,none,none,none,0,0,0,0,0⟩,none,0,by rw [aW,bb,df];rfl,by rw [bb];exact bH.zero _ _,by rw [df];exact J.aF.nil _,λ q I=>by simp [J.ab] at I,kM⟩
  ·refine bm<|aw<| ?_;have ae:=ae.later fD;refine aa (ax Z (ae.all dz cd))<|ca axL Z Z ((aGu a W _ (bZ.keep c6)).mono ?_);rintro e ud ⟨a28,rfl,MP,dH⟩;refine cu ?_;have:=dH.size;have hI:=γ c6 dH;have aKK:=bM MP.lt;have La:=dx MP.lt;have ae:=ae.later dH;refine st Z Z ae Z cd Z Z Z λ Jb px ae=> ?_;have:=px.size;have sJ:=Ext.mod hI px bo;refine aC<|aw<|aa (ax Z (ae.all dz cd))<|vm Z<| ?_;have MP:=MP.mod px (bz La);refine ca axM Z Z ((aGx _ a28 W _ _ l _ MP (ah.keep sJ) (λ aG q I ag=>by have κ:=ah.aFW (by decide) aG q I;have τ:=La q (s_ ag);omega) (by omega)).mono ?_);rintro e L3 ⟨aqI,avi,rfl,Rt,Xh,FU⟩;refine cu ?_;have wO:=Ext.mod sJ FU (λ q I=>by have bw:=La q (s_ I);omega);rw [aJ0 a28 W l] at ae;have amX:=dx Rt.lt;refine aJ Z<|aw<| ?_;have AM:∀ q∈J.ab a28.T,q=bB→False:=λ q I ag=>by (have:=La q (s_ I);omega)
   have ae:=ae.mod FU (λ I=>AM _ I rfl);refine aa (ax Z (ae.all dz cd))<|vm Z<| ?_;have ar:=(ar.later (γ fD dH)).mod px aO;have AN:∀ q∈J.ab a28.T,q=cJ→False:=λ q I ag=>by (have:=La q (s_ I);omega)
   have ar:=ar.mod FU (λ I=>AN _ I rfl);refine st Z Z ar Z cd Z Z Z λ L4 kX ar=> ?_;have rO:=Ext.mod wO kX bo;refine va Z<|aY Z<|cz (.cell Z (ar.all dz cd) (.tmp Z (.tmp Z .nil)))<| ?_;have Xh:=Xh.mod kX (bz La);have Rt:=Rt.mod kX (bz amX);obtain ⟨aW,bb,df⟩:=UP (l:=l) nd (by omega);exact ⟨a28,aqI,avi,by rw [aW,bb,df];rfl,by rw [bb];exact Xh.down (by omega),by rw [df];exact Rt.down (by omega),λ q I hf=>by (have:=amX q I;(have:=aKK q hf;omega)),rO⟩
end
structure dV where
 kind:Int
 bd:Int
 spot:az
 what:Int
 deriving DecidableEq,Inhabited
namespace dV
def cells (a:dV):List Value:= [.int .i64 (a.kind), .int .i64 (a.bd), .int .i64 (a.spot.x), .int .i64 (a.spot.y), .int .i64 (a.what)]
def ok (a:dV):Prop:=(Lit.int .i64 a.kind).wf=true∧(Lit.int .i64 a.bd).wf=true∧(Lit.int .i64 a.spot.x).wf=true∧(Lit.int .i64 a.spot.y).wf=true∧(Lit.int .i64 a.what).wf=true
def raw (j:Nat) (u:Value):Prop:=match j with
 | 0 | 1 | 2 | 3 | 4=>∃ n:Int,u= .int .i64 n
 | _=>True
theorem qQ (a:dV):∀ (j:Nat) u,a.cells[j]? =some u→raw j u:=by
 intro j u hu
 match j,hu with
 | 0,hu | 1,hu | 2,hu | 3,hu | 4,hu=>exact ⟨_,(aYd hu).symm⟩
 | j+5,hu=>exact trivial
theorem qP (a:dV):∀ u∈a.cells,u.oneCell'=true:=by
 intro u hu;unfold cells at hu;simp only [aYk,aZA,baq] at hu;rcases hu with rfl | rfl | rfl | rfl | rfl<;>rfl
def rep:J dV:=J.flat 5 cells ok raw (λ _=>rfl) qP qQ
def zero:Value:= .agg #[.int .i64 0, .int .i64 0, .int .i64 0, .int .i64 0, .int .i64 0]
theorem j8:∀ (j:Nat) u,zero.cells[j]? =some u→rep.raw j u:=by
 intro j u hu;have hu:(#[(.int .i64 0:Value),(.int .i64 0:Value),(.int .i64 0:Value),(.int .i64 0:Value),(.int .i64 0:Value)]:Array Value)[j]? =some u:=hu
 match j,hu with
 | 0,hu | 1,hu | 2,hu | 3,hu | 4,hu=>exact ⟨_,(aYd hu).symm⟩
 | j+5,hu=>cases hu
theorem info:(prog.info? 153).map (λ i=>(i.zero,i.size,i.bytes))=some (some zero,5,40):=by kernel_rfl
def sh:hl:=(.cons (.int .i64) (.cons (.int .i64) (.cons (.cons (.int .i64) (.cons (.int .i64) .nil)) (.cons (.int .i64) .nil))))
end dV
theorem aBG {w:World} {cs:List Value} {a:dV} (h:dV.rep.has w cs a):cs=a.cells:=bas (show cs=a.cells∧a.ok from h)
section
variable {k:Nat} {V:ai} {t u:bj} {d:dV}
def beside (a b:az):Bool:=b9 b.x (a.x - 1) (a.x+1) && b9 b.y (a.y - 1) (a.y+1)
namespace ai
def place (W:ai) (c:az):Nat:=(c.y * W.field.wide+c.x).toNat
def r3 (t:bj) (n:Int):bj:= {t with load:=t.load+n}
def oW (W:ai) (d:dV):Option ai :=
 match W.ao.findIdx? (ig d.bd) with
 | none=>none
 | some k =>
  let t:=W.ao.getD k default
  let m:=W.bX.getD (W.place d.spot) 0
  if t.kind == 1 && decide (t.load<5) && beside t.spot d.spot && W.field.fP d.spot && m != 0 then
   some {W with bX:=W.bX.set (W.place d.spot) (m - 1),ao:=W.ao.set k (r3 t 1)}
  else none
def drop (W:ai) (d:dV):Option ai :=
 match W.ao.findIdx? (ig d.bd) with
 | none=>none
 | some k =>
  let t:=W.ao.getD k default
  let o:=t.owner.toNat
  let s:=W.bE.getD o 0
  let n:=min t.load (1000000 - s)
  if t.load != 0 && beside (W.bf.getD o default) t.spot && decide (0<n) then
   some {W with bE:=W.bE.set o (s+n),ao:=W.ao.set k (r3 t (-n))}
  else none
def around (c:az):List az :=
 [c,⟨c.x - 1,c.y - 1⟩,⟨c.x,c.y - 1⟩,⟨c.x+1,c.y - 1⟩,⟨c.x - 1,c.y⟩,⟨c.x,c.y⟩,⟨c.x+1,c.y⟩,⟨c.x - 1,c.y+1⟩,⟨c.x,c.y+1⟩,⟨c.x+1,c.y+1⟩]
def F1 (W:ai) (c:az):Bool:=W.field.ground c && !W.ao.any (si c)
def free (W:ai) (c:az):Option az:=(around c).find? W.F1
def tA (W:ai) (d:dV):Option ai :=
 let s:=W.bE.getD d.bd.toNat 0
 if b9 d.bd 0 ((W.bf.length:Int) - 1) && b9 d.what 1 2 && decide (nr d.what≤s) && decide (W.ao.length<100) && decide (W.next<1000000) then
  match W.free (W.bf.getD d.bd.toNat default) with
  | none=>none
  | some c=>some {W with ao:=W.ao++ [⟨W.next,d.bd,d.what,c,ni d.what,0⟩],next:=W.next+1,bE:=W.bE.set d.bd.toNat (s - nr d.what)}
 else none
def mQ (W:ai) (d:dV):Option ai:=if d.kind=1 then W.oW d else if d.kind=2 then W.drop d else if d.kind=3 then W.tA d else none
def iU (W:ai):List dV→ai×List Bool
 | []=>(W, [])
 | d::l=>match W.mQ d with
  | some V=>((V.iU l).1,true::(V.iU l).2)
  | none=>((W.iU l).1,false::(W.iU l).2)
end ai
theorem Kr {l:List bj} {id:Int} (h:l.findIdx? (ig id)=some k):∃ t,l[k]? =some t∧t.id=id∧l.getD k default=t:=by
 obtain ⟨κ,τ,_⟩:=baT.1 h;exact ⟨l[k],aYb κ,by simpa [ig] using τ,by rw [aX7,aYb κ];rfl⟩
theorem aJI {W:ai} (l3:V.ao=W.ao.set k u) (aH:W.ao[k]? =some t) (hs:u.spot=t.spot) (i:Nat):V.km i=W.km i:=by
 unfold ai.km;rw [l3,List.take_set,aZu];by_cases q9:k<i
 ·have κ:((W.ao.take i).map (·.spot))[k]? =some t.spot:=by rw [aYv,aYO,aYq q9,aH];rfl
  obtain ⟨τ,au⟩:=aX8.1 κ;rw [hs,← au];exact aZ6 _
 ·rw [bcK (by rw [aYT,aYa];omega)]
theorem aFg {W:ai} (l3:V.ao=W.ao.set k u) (aH:W.ao[k]? =some t) (hs:u.id=t.id) (i:Nat):V.kV i=W.kV i:=by
 unfold ai.kV;by_cases hi:i=0
 ·rw [aYq hi,aYq hi]
 ·rw [aYi hi,aYi hi,l3,aX7,aX7];by_cases ak:k=i - 1
  ·subst ak;rw [aYz (aX8.1 aH).1,aH];exact hs
  ·rw [aYJ ak]
theorem X1 {W:ai} (l3:V.ao=W.ao.set k u) (aH:W.ao[k]? =some t) {i:Nat} {x:bj} (hx:V.ao[i]? =some x):(i=k∧x=u)∨(i≠k∧W.ao[i]? =some x):=by
 rw [l3] at hx;by_cases ak:k=i
 ·subst ak;rw [aYz (aX8.1 aH).1] at hx;exact .inl ⟨Z,(aYd hx).symm⟩
 ·rw [aYJ ak] at hx;exact .inr ⟨ba7 ak,hx⟩
theorem Good.turned {W:ai} (h:Good W) {n:Int} (aH:W.ao[k]? =some t) (l3:V.ao=W.ao.set k (ai.r3 t n)) (ah:0≤t.load+n∧t.load+n≤ai.Dv t.kind)
  (hf:V.field=W.field) (ag:V.bf=W.bf) (hn:V.next=W.next) (hw:V.now=W.now)
  (xG:V.bE.length=W.bE.length) (hs:∀ (i:Nat) s,V.bE[i]? =some s→0≤s∧s≤1000000)
  (TU:V.bX.length=W.bX.length) (hm:∀ (i:Nat) m,V.bX[i]? =some m→0≤m∧m≤1000000∧(m≤0∨W.field.a_.getD i 0=3)):Good V:=by
 have κ:=h.ao k t aH;have hlen:V.ao.length=W.ao.length:=by rw [l3,aYn]
 refine ⟨by rw [hf];exact h.field,by rw [ag];exact h.iJ,by rw [hlen];exact h.dJ,by rw [xG,ag];exact h.sl, ?_,hs,by rw [TU,hf];exact h.FZ,by rw [hf];exact hm,λ i x hx=> ?_,λ i x hx=> ?_,λ i x hx=> ?_,by rw [hn];exact h.next,by rw [hw];exact h.now⟩
 ·rw [ag,hf];exact h.bf
 ·rw [hf,ag];rcases X1 l3 aH hx with ⟨rfl,rfl⟩ | ⟨_,hx⟩
  ·exact ⟨κ.kind,κ.owner,κ.ground,κ.dW,ah⟩
  ·exact h.ao i x hx
 ·rw [aFg l3 aH rfl,hn];rcases X1 l3 aH hx with ⟨rfl,rfl⟩ | ⟨_,hx⟩
  ·exact h.ids i t aH
  ·exact h.ids i x hx
 ·rw [aJI l3 aH rfl];rcases X1 l3 aH hx with ⟨rfl,rfl⟩ | ⟨_,hx⟩
  ·exact h.km i t aH
  ·exact h.km i x hx
theorem aGl {W:ai} (h:W.oW d=some V):∃ (k:Nat) (t:bj),W.ao.findIdx? (ig d.bd)=some k∧W.ao[k]? =some t∧t.id=d.bd∧t.kind=1∧t.load<5∧beside t.spot d.spot=true∧W.field.fP d.spot=true∧W.bX.getD (W.place d.spot) 0≠0∧
  V= {W with bX:=W.bX.set (W.place d.spot) (W.bX.getD (W.place d.spot) 0 - 1),ao:=W.ao.set k (ai.r3 t 1)}:=by
 unfold ai.oW at h;cases hf:W.ao.findIdx? (ig d.bd) with
 | none=>rw [hf] at h;cases h
 | some k =>
  rw [hf] at h;obtain ⟨t,aH,hid,aN⟩:=Kr hf;simp only [aN] at h;split at h
  ·rename_i hc
   simp only [aYl,aYB,bbU,aZf] at hc;exact ⟨k,t,Z,aH,hid,hc.1.1.1.1,hc.1.1.1.2,hc.1.1.2,hc.1.2,hc.2,(aYd h).symm⟩
  ·cases h
theorem axx {W:ai} (h:W.drop d=some V):∃ (k:Nat) (t:bj) (n:Int),W.ao.findIdx? (ig d.bd)=some k∧W.ao[k]? =some t∧t.id=d.bd∧t.load≠0∧beside (W.bf.getD t.owner.toNat default) t.spot=true∧n=min t.load (1000000 - W.bE.getD t.owner.toNat 0)∧0<n∧
  V= {W with bE:=W.bE.set t.owner.toNat (W.bE.getD t.owner.toNat 0+n),ao:=W.ao.set k (ai.r3 t (-n))}:=by
 unfold ai.drop at h;cases hf:W.ao.findIdx? (ig d.bd) with
 | none=>rw [hf] at h;cases h
 | some k =>
  rw [hf] at h;obtain ⟨t,aH,hid,aN⟩:=Kr hf;simp only [aN] at h;split at h
  ·rename_i hc
   simp only [aYl,aYB,bbU] at hc;exact ⟨k,t,_,Z,aH,hid,hc.1.1,hc.1.2,Z,hc.2,(aYd h).symm⟩
  ·cases h
theorem aCj {W:ai} (h:W.tA d=some V):∃ c:az,W.free (W.bf.getD d.bd.toNat default)=some c∧0≤d.bd∧d.bd<(W.bf.length:Int)∧(d.what=1∨d.what=2)∧ai.nr d.what≤W.bE.getD d.bd.toNat 0∧W.ao.length<100∧W.next<1000000∧
  V= {W with ao:=W.ao++ [⟨W.next,d.bd,d.what,c,ai.ni d.what,0⟩],next:=W.next+1,bE:=W.bE.set d.bd.toNat (W.bE.getD d.bd.toNat 0 - ai.nr d.what)}:=by
 unfold ai.tA at h;simp only at h;split at h
 ·rename_i hc
  simp only [aYl,aYB] at hc;have a:=hV hc.1.1.1.1;have b:=hV hc.1.1.1.2;split at h
  ·cases h
  ·rename_i c oK
   exact ⟨c,oK,a.1,by omega,by omega,hc.1.1.2,hc.1.2,hc.2,(aYd h).symm⟩
 ·cases h
theorem aHW (k:Int):0≤ai.nr k:=by unfold ai.nr;split<;>(try split)<;>omega
theorem Good.oW {W:ai} (h:Good W) (hd:W.oW d=some V):Good V:=by
 obtain ⟨k,t,_,aH,_,ak,ah,_,e_,Ig,rfl⟩:=aGl hd;have κ:=h.ao k t aH;have aa8:ai.Dv t.kind=5:=by rw [ak];rfl
 obtain ⟨i1,i2,_⟩:=aL.idx h.field e_;have bF:W.place d.spot<W.bX.length:=by rw [h.FZ];unfold ai.place;omega
 obtain ⟨m,hm⟩:=ic bF;have τ:=h.bX _ m hm;have aN:W.bX.getD (W.place d.spot) 0=m:=by rw [aX7,hm];rfl
 rw [aN] at Ig ⊢;refine h.turned aH Z (by have:=κ.load;omega) Z Z Z Z Z h.bE (by simp) λ i x hx=> ?_;simp only at hx;by_cases hi:W.place d.spot=i
 ·subst hi;rw [aYz bF] at hx;obtain rfl:=aYd hx;refine ⟨by omega,by omega, ?_⟩;rcases τ.2.2 with au | au
  ·omega
  ·exact .inr au
 ·rw [aYJ hi] at hx;exact h.bX i x hx
theorem Good.drop {W:ai} (h:Good W) (hd:W.drop d=some V):Good V:=by
 obtain ⟨k,t,n,_,aH,_,ah,_,hn,Ij,rfl⟩:=axx hd;have κ:=h.ao k t aH;have bF:t.owner.toNat<W.bE.length:=by rw [h.sl];have:=κ.owner;omega
 obtain ⟨s,hs⟩:=ic bF;have τ:=h.bE _ s hs;have aN:W.bE.getD t.owner.toNat 0=s:=by rw [aX7,hs];rfl
 rw [aN] at hn ⊢;refine h.turned aH Z (by have:=κ.load;omega) Z Z Z Z (by simp) (λ i x hx=> ?_) Z h.bX;simp only at hx;by_cases hi:t.owner.toNat=i
 ·subst hi;rw [aYz bF] at hx;obtain rfl:=aYd hx;omega
 ·rw [aYJ hi] at hx;exact h.bE i x hx
theorem Good.tA {W:ai} (h:Good W) (hd:W.tA d=some V):Good V:=by
 obtain ⟨c,oK,abr,oN,ak,hp,Ik,xD,rfl⟩:=aCj hd;have xE:=bbw oK;unfold ai.F1 at xE;rw [aYl] at xE;have q3:∀ t∈W.ao,t.spot≠c:=λ t aH he=>by
  have:=xE.2;rw [aZv,bcc] at this;exact this t aH (by simp [si,he])
 have bF:d.bd.toNat<W.bE.length:=by rw [h.sl];omega
 obtain ⟨s,hs⟩:=ic bF;have τ:=h.bE _ s hs;have aN:W.bE.getD d.bd.toNat 0=s:=by rw [aX7,hs];rfl
 rw [aN] at hp ⊢;have T2:=aHW d.what;have hn:=h.next;have ale:∀ i,i≤W.ao.length→ai.km {W with ao:=W.ao++ [⟨W.next,d.bd,d.what,c,ai.ni d.what,0⟩],next:=W.next+1,bE:=W.bE.set d.bd.toNat (s - ai.nr d.what)} i=W.km i:=λ i hi=>by
  unfold ai.km;simp only;rw [aY1 hi]
 have TP:∀ i,i≤W.ao.length→ai.kV {W with ao:=W.ao++ [⟨W.next,d.bd,d.what,c,ai.ni d.what,0⟩],next:=W.next+1,bE:=W.bE.set d.bd.toNat (s - ai.nr d.what)} i=W.kV i:=λ i hi=>by
  unfold ai.kV;simp only;by_cases aG:i=0
  ·rw [aYq aG,aYq aG]
  ·rw [aYi aG,aYi aG,aX7,aX7,aYw (by omega)]
 have fX:∀ (i:Nat) x,(W.ao++ [(⟨W.next,d.bd,d.what,c,ai.ni d.what,0⟩:bj)])[i]? =some x→(i<W.ao.length∧W.ao[i]? =some x)∨(i=W.ao.length∧x=⟨W.next,d.bd,d.what,c,ai.ni d.what,0⟩):=λ i x hx=>by
  by_cases hi:i<W.ao.length
  ·rw [aYw hi] at hx;exact .inl ⟨hi,hx⟩
  ·rw [aYy (by omega)] at hx;have aG:i - W.ao.length=0:=by
    have:=(aX8.1 hx).1;simp at this;omega
   rw [aG] at hx;exact .inr ⟨by omega,by simpa using hx.symm⟩
 have aRY:W.kV W.ao.length<W.next∧0≤W.kV W.ao.length:=by
  by_cases aG:W.ao.length=0
  ·rw [aG];exact ⟨by show (0:Int)<_;omega,aZl _⟩
  ·obtain ⟨t,aH⟩:=ic (l:=W.ao) (i:=W.ao.length - 1) (by omega);have aU:=h.ids _ t aH;have e:W.kV W.ao.length=t.id:=by
    unfold ai.kV;rw [aYi aG,aX7,aH];rfl
   rw [e];omega
 refine ⟨h.field,h.iJ,by simp;omega,by simp;exact h.sl,h.bf,λ i x hx=> ?_,h.FZ,h.bX,λ i x hx=> ?_,λ i x hx=> ?_,λ i x hx=> ?_,by simp only;omega,h.now⟩
 ·simp only at hx;by_cases hi:d.bd.toNat=i
  ·subst hi;rw [aYz bF] at hx;obtain rfl:=aYd hx;omega
  ·rw [aYJ hi] at hx;exact h.bE i x hx
 ·rcases fX i x hx with ⟨_,hx⟩ | ⟨_,rfl⟩
  ·exact h.ao i x hx
  ·exact ⟨ak,⟨abr,oN⟩,xE.1,by simp only;rcases ak with h | h<;>rw [h]<;>decide,by simp only;rcases ak with h | h<;>rw [h]<;>decide⟩
 ·rcases fX i x hx with ⟨hi,hx⟩ | ⟨rfl,rfl⟩
  ·rw [TP i (by omega)];have:=h.ids i x hx;simp only;omega
  ·rw [TP _ (aYg _)];simp only;omega
 ·rcases fX i x hx with ⟨hi,hx⟩ | ⟨rfl,rfl⟩
  ·rw [ale i (by omega)];exact h.km i x hx
  ·rw [ale _ (aYg _)];simp only;cases hc:(W.km W.ao.length).contains c with
   | false=>rfl
   | true =>
    rw [bbD] at hc;unfold ai.km at hc;obtain ⟨t,aH,he⟩:=aYU.1 hc;exact absurd he (q3 t (aZp aH))
theorem Good.mQ {W:ai} (h:Good W) (hd:W.mQ d=some V):Good V:=by
 unfold ai.mQ at hd;split at hd
 ·exact h.oW hd
 ·split at hd
  ·exact h.drop hd
  ·split at hd
   ·exact h.tA hd
   ·cases hd
theorem Good.iU {W:ai} (h:Good W):∀ l:List dV,Good (W.iU l).1:=by
 intro l;induction l generalizing W with
 | nil=>exact h
 | cons d l bL =>
  unfold ai.iU;cases hd:W.mQ d with
  | none=>exact bL h
  | some V=>exact bL (h.mQ hd)
end
structure m9 (w:World) (aA S:Nat) (a:ai.b7) (W:ai):Prop where
 fI:aM w S (ai.cells a W) 151 (0,0)
 own:bH w aA a W
 aZ:S∉bH.cR a
 low:aA≤S
theorem m9.later {w w':World} {aA S:Nat} {a:ai.b7} {W:ai} (h:m9 w aA S a W) (ag:Below w.heap.size w w'):m9 w' aA S a W:=⟨h.fI.later ag,h.own.later ag,h.aZ,h.low⟩
theorem agr (a b:az) (w:World) (κ:0≤a.x) (τ:a.x≤40) (au:0≤a.y) (aU:a.y≤40):
  Calls prog 142 #[.agg #[.int .i64 a.x, .int .i64 a.y], .agg #[.int .i64 b.x, .int .i64 b.y]] w λ e w'=>e= .returned (.bool (beside a b))∧Below w.heap.size w w':=by
 have cV:=mN w (.cells #[.int .i64 a.x, .int .i64 a.y] 55);have dc:=mN (w.alloc (.cells #[.int .i64 a.x, .int .i64 a.y] 55)) (.cells #[.int .i64 b.x, .int .i64 b.y] 55);have ag:=cV.trans (dc.mono cV.size);unfold beside;clear cV dc;rcases bae b.x (a.x - 1) with c1 | c1
 ·rw [ri (.inl c1)];have d1:decide (a.x - 1≤b.x)=false:=by simp;omega
  go_enter func142,ntmps142;go_wp2
  go_ret;exact ⟨Z,ag⟩
 ·have d1:decide (a.x - 1≤b.x)=true:=by simp;omega
  rcases bae (a.x+1) b.x with c2 | c2
  ·rw [ri (n:=b.x) (.inr c2)];have d2:decide (b.x≤a.x+1)=false:=by simp;omega
   go_enter func142,ntmps142;go_wp2
   go_ret;exact ⟨iX (by simp<;>omega),ag⟩
  ·have d2:decide (b.x≤a.x+1)=true:=by simp;omega
   rw [nM (n:=b.x) c1 c2];rcases bae b.y (a.y - 1) with c3 | c3
   ·rw [ri (.inl c3)];have d3:decide (a.y - 1≤b.y)=false:=by simp;omega
    go_enter func142,ntmps142;go_wp2
    go_ret;exact ⟨iX (by simp<;>omega),ag⟩
   ·have d3:decide (a.y - 1≤b.y)=true:=by simp;omega
    rcases bae (a.y+1) b.y with c4 | c4
    ·rw [ri (n:=b.y) (.inr c4)];have d4:decide (b.y≤a.y+1)=false:=by simp;omega
     go_enter func142,ntmps142;go_wp2
     go_ret;exact ⟨iX (by simp<;>omega),ag⟩
    ·have d4:decide (b.y≤a.y+1)=true:=by simp;omega
     rw [nM (n:=b.y) c3 c4];go_enter func142,ntmps142;go_wp2
     go_ret;exact ⟨iX (by simp<;>omega),ag⟩
theorem aKk (t:bj) (id:Int) (g:Nat) (w:World) (aN:w.cell? ⟨g,0,none⟩=some (.int .i64 id)):
  Calls prog 173 #[.agg #[.int .i64 t.id, .int .i64 t.owner, .int .i64 t.kind, .int .i64 t.spot.x, .int .i64 t.spot.y, .int .i64 t.dW, .int .i64 t.load], .pointer (some ⟨g,0,none⟩)] w λ e w'=>e= .returned (.bool (ig id t))∧Below w.heap.size w w':=by
 have ag:=mN w (.cells #[.int .i64 t.id, .int .i64 t.owner, .int .i64 t.kind, .int .i64 t.spot.x, .int .i64 t.spot.y, .int .i64 t.dW, .int .i64 t.load] 57);have bF:=baj w _ aN;simp only at bF;go_enter func173,ntmps173;go_wp2_with fail
 go_ret;exact ⟨Z,ag⟩
theorem aEb (id:Int) (g:Nat) (A:Option Addr) (c:Nat) (l:List bj) (w:World) (ah:bj.rep.aK 56 w A c l) (aN:w.cell? ⟨g,0,none⟩=some (.int .i64 id)):
  Calls prog 172 #[.slice A l.length c, .func (.func 173) #[] #[.pointer (some ⟨g,0,none⟩)]] w λ e w'=>e= .returned (.int .i64 (gY (ig id) l))∧Below w.heap.size w w':=by
 obtain ⟨n,hn⟩:∃ n,l.length=n:=⟨_,rfl⟩;have hle:n≤9223372036854775807:=by have:=ah.1;have:=ah.2.1;omega
 rw [hn];have rX:=aYe ah;have fr:=aYe hn;clear ah hn;go_enter func172,ntmps172;go_wp2_with fail
 go_loopw [5,8] (λ _ ih wr=>∃ k:Nat,k≤n∧ih= .int .i64 (k:Int)∧Hid (∀ j (ay:j<k) (tB:j<l.length),(ig id) l[j]=false)∧Below w.heap.size w wr) (λ _ ih _=>n - (intOf ih).toNat)
 case atStart=>exact ⟨0,aYX _,rfl,(λ j ay=>by omega),aYG _ _⟩
 case round =>
  obtain ⟨k,ak,rfl,iQ,ag⟩:=hrel;by_cases bF:k<n
  ·have j0:k<l.length:=by rw [fr.out];exact bF
   obtain ⟨b,o,rfl,kD⟩:=bj.at_ (rX.out.keep ag) (by omega);obtain ⟨x,tG⟩:∃ x,l[k]'j0=x:=⟨_,rfl⟩;obtain ⟨wv,lM,nt,Bt,U',acS,aog⟩:=kD k x (by rw [aYb j0,tG]);have yD:=aYe tG;have aaO:wr.cell? ⟨g,0,none⟩=some (.int .i64 id):=cell_later ag aN;have hc:=aKk x id g wr aaO;clear kD tG;cases kB:(ig id) x with
   | true =>
    have my:gY (ig id) l=(k:Int):=Ir j0 (by rw [yD.out];exact kB) λ j ay=>iQ.out j ay (by omega);rw [kB] at hc;have sS:=aYe my;clear my kB;go_wp2_with (go_at_call 173;refine hc.mono ?_;rintro e w' ⟨rfl,bI⟩)
    go_ret;exact ⟨by rw [sS.out];rfl,ag.trans (bI.mono ag.size)⟩
   | false =>
    rw [kB] at hc;have qF:Hid (∀ j (ay:j<k+1) (tB:j<l.length),(ig id) l[j]=false):=by
     intro j ay tB;by_cases h:j<k
     ·exact iQ.out j h tB
     ·obtain rfl:j=k:=by omega
      rw [yD.out];exact kB
    clear kB;go_wp2_with (go_at_call 173;refine hc.mono ?_;rintro e w' ⟨rfl,bI⟩)
    go_roundw
    case rel=>exact ⟨k+1,by omega,by go_num,qF,ag.trans (bI.mono ag.size)⟩
    case measure=>simp [intOf];omega
  ·have my:gY (ig id) l= -1:=Iq λ j ay=>iQ.out j (by have:=fr.out;omega) ay;have sS:=aYe my;clear my;go_wp2_with fail
   go_ret;exact ⟨by rw [sS.out];rfl,ag⟩
def adG (a:ai.b7) (k:Nat):Option Addr:=a.T.map λ x=>⟨x.block,k * 7,none⟩
def LQ (a:ai.b7) (W:ai) (id:Int):Option Addr:=match W.ao.findIdx? (ig id) with | none=>none | some k=>adG a k
theorem Vr (id:Int) (w:World) (aA S:Nat) (a:ai.b7) (W:ai) (h:m9 w aA S a W):
  Calls prog 141 #[.pointer (some ⟨S,0,none⟩), .int .i64 id] w λ e w'=>e= .returned (.pointer (LQ a W id))∧Below w.heap.size w w':=by
 obtain ⟨fH,gU,gV,gd,fM,fQ,gv,hg,gF,gh⟩:=a;have cV:=mN w (.cells #[.int .i64 id] 3);have sa:=aM.new w [.int .i64 id] 3 (0,0);obtain ⟨w0,kv⟩:∃ w0,Hid (w.alloc (.cells #[.int .i64 id] 3)=w0):=⟨_,aYe rfl⟩;rw [kv.out] at cV;have sa:aM w0 w.heap.size [.int .i64 id] 3 (0,0):=by rw [← kv.out];exact sa
 have aG:=h.later cV;obtain ⟨dJ,jP⟩:∃ n,Hid (W.ao.length=n):=⟨_,aYe rfl⟩;have MK:=aYe (aEb id w.heap.size fM gh W.ao w0 aG.own.T.has (sa.cell 0));have aRs:=h.fI.lt;obtain ⟨ck,c1,c2,c3,c4,c5,ek,eH,fx⟩:=ai.vl aG.fI;have aI:=aYe aG.fI;have cB:bj.rep.aF 57 56 w0 aA (J.ab fM) fM gh W.ao:=aG.own.T;obtain ⟨gW,k_,fw,hQ,xa,EO,agh,aPa,aPb⟩:=ai.vl h.fI;rw [jP.out] at MK ek agh;unfold LQ;cases hf:W.ao.findIdx? (ig id) with
 | none =>
  have hi:gY (ig id) W.ao= -1:=by unfold gY;rw [hf]
  rw [hi] at MK;clear hf hi h aG cB sa;go_enter func141,ntmps141;go_wp2_with fail
  rw [kv.out];refine MK.out.mono ?_;rintro e cx ⟨rfl,bI⟩;go_wp2_with fail
  go_ret;exact ⟨Z,cV.trans (bI.mono cV.size)⟩
 | some k =>
  have hi:gY (ig id) W.ao=(k:Int):=by unfold gY;rw [hf]
  rw [hi] at MK;obtain ⟨t,aH,_⟩:=Kr hf;have ak:k<dJ:=by rw [← jP.out];exact (aX8.1 aH).1
  obtain ⟨g,rfl⟩:=cB.block (by rw [jP.out];omega);have q9:(k:Int)<(dJ:Int):=by omega
  have q7:(0:Int)≤(k:Int):=by omega
  clear hf hi h aG cB sa aH;go_enter func141,ntmps141;go_wp2_with fail
  rw [kv.out];refine MK.out.mono ?_;rintro e cx ⟨rfl,bI⟩;have d6:=cell_later bI ek;clear ck c1 c2 c3 c4 c5 ek eH fx;go_wp2_with fail
  go_ret;exact ⟨by simp [adG],cV.trans (bI.mono cV.size)⟩
def aNH (W:ai) (V:Option ai) (w:World) (aA S:Nat) (e:Ending) (w':World):Prop :=
 ∃ a',e= .returned (.bool V.isSome)∧m9 w' aA S a' (V.getD W)∧Below aA w w'
def aOz (W:ai) (d:dV) (w:World) (aA S:Nat) (a:ai.b7) (e:Ending) (w':World):Prop :=
 ∃ V,e= .returned (.bool (W.oW d).isSome)∧(W.oW d).getD W=V∧m9 w' aA S a V∧Below aA w w'
theorem UQ {W:ai} {d:dV} {k:Nat} {t:bj} (hf:W.ao.findIdx? (ig d.bd)=some k) (aH:W.ao[k]? =some t):
  W.oW d=if t.kind == 1 && decide (t.load<5) && beside t.spot d.spot && W.field.fP d.spot && W.bX.getD (W.place d.spot) 0 != 0 then
   some {W with bX:=W.bX.set (W.place d.spot) (W.bX.getD (W.place d.spot) 0 - 1),ao:=W.ao.set k (ai.r3 t 1)} else none:=by
 have aN:W.ao.getD k default=t:=by rw [aX7,aH];rfl
 unfold ai.oW;rw [hf];simp only [aN]
section
variable {w w1:World} {aA k:Nat} {a:ai.b7} {id m:Int} {d:dV} {t:bj}
def yN (W:ai) (V:Option ai) (w:World) (aA S:Nat) (a:ai.b7) (e:Ending) (w':World):Prop :=
 ∃ a',e= .returned (.bool V.isSome)∧m9 w' aA S a' (V.getD W)∧(∀ q∈bH.cR a',q∈bH.cR a∨w.heap.size≤q)∧Mod (S::bH.cR a) w w'
theorem bH.aJo {W:ai} {l:List Int} (h:bH w aA a W) (m:Mod (J.ab a.M) w w1) (qZ:bu.aF 3 8 w1 aA (J.ab a.M) a.M a.m l):bH w1 aA a {W with bX:=l}:=by
 obtain ⟨d1,d2,d3⟩:=h.Sz;exact ⟨h.P.mod m λ x hx hs=>(d1 x hs).1 hx,h.B.mod m λ x hx hs=>(d1 x hs).2.1 hx,h.S.mod m λ x hx hs=>(d1 x hs).2.2.1 hx,qZ,h.T.mod m λ x hx hs=>(d1 x hs).2.2.2 hx,h.apart,h.nums⟩
theorem bH.aoQ {W:ai} {l:List bj} (h:bH w aA a W) (m:Mod (J.ab a.T) w w1) (cB:bj.rep.aF 57 56 w1 aA (J.ab a.T) a.T a.t l):bH w1 aA a {W with ao:=l}:=by
 obtain ⟨d1,d2,d3⟩:=h.Sz;exact ⟨h.P.mod m λ x hx hs=>(d2 x hs).1 hx,h.B.mod m λ x hx hs=>(d2 x hs).2.1 hx,h.S.mod m λ x hx hs=>(d2 x hs).2.2.1 hx,h.M.mod m λ x hx hs=>(d2 x hs).2.2.2 hx,cB,h.apart,h.nums⟩
theorem apr {W:ai} (h:bH w aA a W) (hf:W.ao.findIdx? (ig id)=some k):LQ a W id=some ⟨fN a.T,mA a.T+k * 7,none⟩:=by
 obtain ⟨t,aH,_⟩:=Kr hf;have cB:bj.rep.aF 57 56 w aA (J.ab a.T) a.T a.t W.ao:=h.T;obtain ⟨g,aN⟩:=cB.block (by have:=(aX8.1 aH).1;omega);unfold LQ adG;rw [hf,aN];simp [fN,mA]
theorem apq {W:ai} (hf:W.ao.findIdx? (ig id)=none):LQ a W id=none:=by unfold LQ;rw [hf]
theorem ano {W:ai} (hf:W.ao.findIdx? (ig d.bd)=none):W.oW d=none:=by unfold ai.oW;rw [hf]
theorem ann {W:ai} (hf:W.ao.findIdx? (ig d.bd)=some k) (aH:W.ao[k]? =some t) (h:((t.kind != 1 || decide (5≤t.load)) || !beside t.spot d.spot)=true):W.oW d=none:=by
 rw [UQ hf aH,aYi];intro hc;simp only [aYl,aYB,aZf] at hc;simp only [hc.1.1.2,hc.1.1.1.1,aYZ,bne_self_eq_false,aYB,baK,aY8,baq,false_or] at h;omega
theorem anp {W:ai} (hf:W.ao.findIdx? (ig d.bd)=some k) (aH:W.ao[k]? =some t) (hF:W.field.a7=0) (h:¬ W.field.et d.spot=0):W.oW d=none:=by
 rw [UQ hf aH,aYi];intro hc;simp only [aYl] at hc;exact h (aL.n8 hF hc.1.2).1
theorem anq {W:ai} (hf:W.ao.findIdx? (ig d.bd)=some k) (aH:W.ao[k]? =some t) (hm:W.bX.getD (W.place d.spot) 0=m) (h:m=0):W.oW d=none:=by
 rw [UQ hf aH,hm,h,aYi (by simp)]
theorem aGk {W:ai} (hf:W.ao.findIdx? (ig d.bd)=some k) (aH:W.ao[k]? =some t) (ak:t.kind=1) (ah:t.load<5) (ag:beside t.spot d.spot=true) (e_:W.field.fP d.spot=true) (hm:W.bX.getD (W.place d.spot) 0=m) (h:¬ m=0):
  W.oW d=some {W with bX:=W.bX.set (W.place d.spot) (m - 1),ao:=W.ao.set k (ai.r3 t 1)}:=by
 rw [UQ hf aH,hm,aYq];simp [ak,ah,ag,e_,h]
theorem aGi (d:dV) (w:World) (aA S:Nat) (a:ai.b7) (W:ai) (h:m9 w aA S a W) (bP:Good W) (hf:W.ao.findIdx? (ig d.bd)=none):
  Calls prog 105 #[.pointer (bA S), .agg #[Φ d.kind,Φ d.bd,Φ d.spot.x,Φ d.spot.y,Φ d.what]] w (yN W (W.oW d) w aA S a):=by
 have kd:=h.low;have jZ:=h.aZ;have bR:=h.fI;have bq:=h.own;have rf:=apq (a:=a) hf;refine ch (n:=88) func105 Z Z Z ?_;refine dZ Z Z λ l9 Co ow Pv gH=> ?_;have fb:=(Mod.cH (S::bH.cR a) w).trans (Mod.a8 ow);refine aJ Z<|aB Z<|aa (aj AQ Z)<|bk Z gH aT Z<| ?_;have bR:=bR.later ow;have bq:=bq.later ow;refine cM SF Z ((rf ▸ Vr d.bd _ aA S a W ⟨bR,bq,jZ,kd⟩)) λ uf bt=> ?_;have jN:=fb.trans (Mod.a8 bt);refine aJ Z<|av<|av<| ?_;refine cO [(6,0),(13,0),(20,0),(22,0),(23,0)] [0,1,2,3,4,5,6,7,8,9,10,11,12,13,14,15,16,17,18,19,20,21,22,23,24,25] ?_;refine a1 rfl rfl<|aq rfl (λ _=>Sc underlying206 rfl rfl)<|a1 rfl rfl<|c0 rfl rfl<|c0 rfl rfl<|c0 rfl rfl<|jh rfl rfl<|c0 rfl rfl<|aq rfl (λ _=>iK rfl rfl)<|a1 rfl rfl<|c0 rfl rfl<|c0 rfl rfl<|c0 rfl rfl<|jh rfl rfl<|c0 rfl rfl<|aq rfl (λ _=>iK rfl rfl)<|a1 rfl rfl<|c0 rfl rfl<|c0 rfl rfl<|c0 rfl rfl<|jh rfl rfl<|c0 rfl rfl<|jh rfl rfl<|ef (v:=undef) (args:= []) rfl rfl rfl rfl rfl rfl SG (λ hc=>nomatch hc) (λ hc=>nomatch hc) rfl<| ?_;refine c0 Z Z<|aq Z (λ _=>iK Z Z)<|fn λ zS fi=> ?_;have m3:=jN.trans (Mod.a8 fi);refine aX<|eT Z<|aw<|aY Z<|bD<|b_ Z Z<| ?_;have dA:=(γ bt fi);have bq:=bq.later dA;have bR:=bR.later dA;exact ⟨a,by rw [ano hf];rfl,by rw [ano hf];exact ⟨bR,bq,jZ,kd⟩,λ q I=> .inl I,m3⟩
theorem aGh (d:dV) (w:World) (aA S:Nat) (a:ai.b7) (W:ai) (h:m9 w aA S a W) (bP:Good W) (k:Nat) (t:bj) (hf:W.ao.findIdx? (ig d.bd)=some k) (aH:W.ao[k]? =some t):
  Calls prog 105 #[.pointer (bA S), .agg #[Φ d.kind,Φ d.bd,Φ d.spot.x,Φ d.spot.y,Φ d.what]] w (yN W (W.oW d) w aA S a):=by
 have TU:=bP.FZ;have kd:=h.low;have jZ:=h.aZ;have bR:=h.fI;have bq:=h.own;have Ct:∀ q∈bH.cR a,q=S→False:=λ q I ag=>jZ (ag ▸ I);have DH:=bM bq.lt;have rf:=apr bq hf;have cB:=bP.ao k t aH;obtain ⟨i1,i2,i3,i4,i5,i6⟩:=aL.idx bP.field (aL.lj cB.ground);obtain ⟨uk,QG,Wq,Wr,_,_⟩:=aL.eB bP.field;have dc:0≤t.spot.x:=by omega
 have bI:t.spot.x≤40:=by omega
 have er:0≤t.spot.y:=by omega
 have eg:t.spot.y≤40:=by omega
 have aCy:=cB.load;refine ch (n:=88) func105 Z Z Z ?_;refine dZ Z Z λ l9 Co ow Pv gH=> ?_;have fb:=(Mod.cH (S::bH.cR a) w).trans (Mod.a8 ow);refine aJ Z<|aB Z<|aa (aj AQ Z)<|bk Z gH aT Z<| ?_;have bR:=bR.later ow;have bq:=bq.later ow;refine cM SF Z ((rf ▸ Vr d.bd _ aA S a W ⟨bR,bq,jZ,kd⟩)) λ uf bt=> ?_;have jN:=fb.trans (Mod.a8 bt);refine aJ Z<|av<|av<| ?_;refine cO [(6,0),(13,0),(20,0),(22,0),(23,0)] [0,1,2,3,4,5,6,7,8,9,10,11,12,13,14,15,16,17,18,19,20,21,22,23,24,25] ?_;refine a1 Z Z<|aq Z (λ _=>Sc underlying206 Z Z)<|a1 Z Z<|fy Z Z Z<|b0 Z Z (λ hc _=>bx Z)<|b0 Z Z (λ hc _=>aj SX Z)<| ?_;have bq:=bq.later bt;refine dL Z Z (λ hc _ x=>ax Z (J.aK.lg kC (by rw [← (bq.later x).T.has.bT (aV k (by have:=(aX8.1 aH).1;exact this))];exact (bq.later x).T.has) 2 aH Z aT))<|b0 Z Z (λ hc _=>bne Z Z)<|aq Z (λ _=>fR Z Z)<|a1 Z Z<|fy Z Z Z<|b0 Z Z (λ hc _=>bx (gt hc Z))<|b0 Z Z (λ hc _=>aj CB (gt hc Z))<|dL Z Z (λ hc _ x=>ax (gt hc Z) (J.aK.lg kC (by rw [← (bq.later x).T.has.bT (aV k (by have:=(aX8.1 aH).1;exact this))];exact (bq.later x).T.has) 6 aH Z aT))<|b0 Z Z (λ hc _=>jg (gt hc Z) Z)<|aq Z (λ _=>eW Z Z Z Z)<|a1 Z Z<|fy Z Z Z<|b0 Z Z (λ hc _=>bx (gt hc Z))<|b0 Z Z (λ hc _=>aj vT (gt hc Z))<|dL Z Z (λ hc _ x=>ax (gt hc Z) (J.aK.part kC (by rw [← (bq.later x).T.has.bT (aV k (by have:=(aX8.1 aH).1;exact this))];exact (bq.later x).T.has) 3 (ds:= [Φ t.spot.x,Φ t.spot.y]) aH Z cA b3))<|b0 Z Z (λ hc _=>aj SH Z)<| ?_;have gH:=gH.later bt;refine dL Z Z (λ hc _ x=>ax (gt hc Z) ((gH.later x).par [Φ d.spot.x,Φ d.spot.y] cA b3 Z))<|ef Z Z Z Z Z Z SG (λ hc=>gp (gt hc Z) (gp (gt hc Z) Z)) (λ hc _ x=>agr t.spot d.spot _ dc bI er eg) Z<|b0 Z Z (λ hc _=>dJ (gt hc Z))<|aq Z (λ _=>eW Z Z Z Z)<|fn λ zS fi=> ?_;have m3:=jN.trans (Mod.a8 fi);refine aX<| ?_;refine du Z (λ jB=> ?_) (λ jB=> ?_)
 ·refine aw<|aY Z<|bD<|b_ Z Z<| ?_;have bq:=bq.later fi;have bR:=bR.later (γ bt fi);exact ⟨a,by rw [ann hf aH jB];rfl,by rw [ann hf aH jB];exact ⟨bR,bq,jZ,kd⟩,λ q I=> .inl I,m3⟩
 ·simp only [aYM,bbL,aYI,aZP,bdj] at jB;obtain ⟨⟨ak,ah⟩,Fl⟩:=jB;refine bm<|av<|av<| ?_;refine cO [(4,0),(6,0),(7,0)] [0,1,2,3,4,5,6,7,8,9,10,11,12] ?_;refine a1 Z Z<|aq Z (λ _=>bx Z)<|aq Z (λ _=>aj oH Z)<|aq Z (λ _=>aj r7 Z)<| ?_;have bR:=bR.later (γ bt fi);refine dT Z (λ _ x=>ax Z ((bR.later x).par [Φ W.field.wide,Φ W.field.high, .slice a.P W.field.a_.length a.p] mo mq Z))<|aq Z (λ _=>aj SH Z)<| ?_;have gH:=gH.later fi;refine dT Z (λ _ x=>ax Z ((gH.later x).par [Φ d.spot.x,Φ d.spot.y] cA b3 Z))<| ?_;have bq:=bq.later fi;refine qW Z Z s6 Z (λ _ x=>uM W.field d.spot a.P a.p _ ((bq.later x).P).has) Z<|a1 Z Z<|aq Z (λ _=>ex Z Z)<|aq Z (λ _=>ex Z Z)<|aq Z (λ _=>ee Z)<|aq Z (λ _=>ee Z)<|fn λ wD cr=> ?_;have jq:=m3.trans (Mod.a8 cr);refine aX<|aB Z<|cS Z Z<|aC<| ?_;refine eU Z (λ mR=> ?_) (λ mR=> ?_)
  ·refine aw<|aY Z<|bD<|b_ Z Z<| ?_;have bq:=bq.later cr;have bR:=bR.later cr;exact ⟨a,by rw [anp hf aH bP.field mR];rfl,by rw [anp hf aH bP.field mR];exact ⟨bR,bq,jZ,kd⟩,λ q I=> .inl I,jq⟩
  ·have e_:=XZ bP.field mR;obtain ⟨eX,fA,i_,rG,qw,rH⟩:=aL.idx bP.field e_;have pg:=aL.fa bP.field;obtain ⟨uk,QG,Wq,Wr,_,_⟩:=aL.eB bP.field;have nV:0≤d.spot.y * W.field.wide:=bbH qw (by omega);have z2:d.spot.y * W.field.wide≤1600:=by omega
   have aDc:W.place d.spot<W.bX.length:=by unfold ai.place;omega
   obtain ⟨m,hm⟩:=ic aDc;have aR8:=bP.bX _ m hm;have aa7:W.bX.getD (W.place d.spot) 0=m:=by rw [aX7,hm];rfl
   refine bm<|av<| ?_;refine cO [(4,0),(7,0),(13,0),(17,0)] [0,1,2,3,4,5,6,7,8,9,10,11,12,13,14,15,16,17,18,19,20] ?_;refine a1 Z Z<|aq Z (λ _=>bx Z)<|aq Z (λ _=>aj oH Z)<|aq Z (λ _=>aj AX Z)<| ?_;have bR:=bR.later cr;refine cf Z Z bR c8 Z<|aq Z (λ _=>aj SH Z)<|aq Z (λ _=>aj jX Z)<| ?_;have gH:=gH.later cr;refine cf Z Z gH aT Z<|a1 Z Z<|aq Z (λ _=>bx Z)<|aq Z (λ _=>aj oH Z)<|aq Z (λ _=>aj r7 Z)<|aq Z (λ _=>aj NS Z)<|cf Z Z bR aT Z<|aq Z (λ _=>ER Z Z gD)<|aq Z (λ _=>aj SH Z)<|aq Z (λ _=>aj jW Z)<|cf Z Z gH aT Z<|aq Z (λ _=>bad Z Z gD)<| ?_;have bq:=bq.later cr;refine aq Z (λ _=>cl (((d.spot.y * W.field.wide)+d.spot.x).toNat) underlying22 dg Z Z (bq.M.has.bT (aV (((d.spot.y * W.field.wide)+d.spot.x).toNat) (show (d.spot.y * W.field.wide+d.spot.x).toNat<W.bX.length by omega))) (by omega) (show (d.spot.y * W.field.wide+d.spot.x).toNat<W.bX.length by omega))<|aq Z (λ _=>ee Z)<|fn λ wE fK=> ?_;have lz:=jq.trans (Mod.a8 fK);refine aX<|av<|aB Z<|aa (bx Z)<| ?_;have bq:=bq.later fK;refine aa (ax Z (J.aK.fh fY (by rw [← bq.M.has.bT (aV (((d.spot.y * W.field.wide)+d.spot.x).toNat) (show (d.spot.y * W.field.wide+d.spot.x).toNat<W.bX.length by omega))];exact bq.M.has) hm Z aT))<|aa (beq Z Z)<|aC<| ?_;refine iE Z (λ vV=> ?_) (λ vV=> ?_)
   ·refine aw<|aY Z<|bD<|b_ Z Z<| ?_;have bR:=bR.later fK;exact ⟨a,by rw [anq hf aH aa7 vV];rfl,by rw [anq hf aH aa7 vV];exact ⟨bR,bq,jZ,kd⟩,λ q I=> .inl I,lz⟩
   ·refine bm<|aB Z<|aa (bx Z)<|aa (ax Z (J.aK.fh fY (by rw [← bq.M.has.bT (aV (((d.spot.y * W.field.wide)+d.spot.x).toNat) (show (d.spot.y * W.field.wide+d.spot.x).toNat<W.bX.length by omega))];exact bq.M.has) hm Z aT))<|aa (kx Z Z gD)<|aa (bx Z)<|so (q':=m - 1) (j:=0) (i:=((d.spot.y * W.field.wide)+d.spot.x).toNat) bq.M J.dQ hm Z Z Z Z (λ _ cs h=>by have rz:=(show _∧_ from h).2;obtain rfl:=fY h;exact ⟨rfl,b8.2 (by omega)⟩) Z Z dg λ ua tN Nd=> ?_;have bR:=bR.later fK;have gH:=gH.later fK;have kM:=lz.md tN (λ q I=> .inl (aYm _ (Kt I)));have Rc:=bq.aJo tN Nd;have awT:∀ q∈J.ab a.M,q=S→False:=λ q I ag=>by (exact Ct q (Kt I) ag)
    have bR:=bR.mod tN (λ I=>awT _ I rfl);refine aC<|aB Z<|aa (bx Z)<|aa (aj CB Z)<|aa (ax Z (J.aK.lg kC (by rw [← Rc.T.has.bT (aV k (by have:=(aX8.1 aH).1;exact this))];exact Rc.T.has) 6 aH Z aT))<|gx Z Z<|aa (bx Z)<|aa (aj CB Z)<|so (q':=ai.r3 t 1) (j:=6) (i:=k) Rc.T J.dQ aH Z Z Z Z (λ _ cs h=>by have rz:=(show _∧_ from h).2;obtain rfl:=kC h;exact ⟨rfl,by obtain ⟨qm,nn,oX,pA,ry,Lr,PO⟩:=rz;exact ⟨qm,nn,oX,pA,ry,Lr,b8.2 (by show _≤t.load+1∧t.load+1≤_;omega)⟩⟩) Z Z dg λ ud jI XE=> ?_;have awV:∀ q∈J.ab a.M,q=Co→False:=λ q I ag=>by (have:=DH q (Kt I);omega)
    have gH:=gH.mod tN (λ I=>awV _ I rfl);have hI:=kM.md jI (λ q I=> .inl (aYm _ (s_ I)));have asm:=Rc.aoQ jI XE;have awW:∀ q∈J.ab a.T,q=S→False:=λ q I ag=>by (exact Ct q (s_ I) ag)
    have bR:=bR.mod jI (λ I=>awW _ I rfl);refine aC<|aw<|aY Z<|b_ Z Z<| ?_;rw [aGk hf aH ak ah Fl e_ aa7 (by assumption)];exact ⟨a,Z,⟨by simpa [ai.cells] using bR,asm,jZ,kd⟩,λ q I=> .inl I,hI⟩
end
def aNI (W:ai) (d:dV) (w:World) (aA S:Nat) (a:ai.b7) (e:Ending) (w':World):Prop :=
 ∃ V,e= .returned (.bool (W.drop d).isSome)∧(W.drop d).getD W=V∧m9 w' aA S a V∧Below aA w w'
theorem drop_eq {W:ai} {d:dV} {k:Nat} {t:bj} {b:az} {s:Int} (hf:W.ao.findIdx? (ig d.bd)=some k) (aH:W.ao[k]? =some t) (ag:W.bf[t.owner.toNat]? =some b) (hs:W.bE[t.owner.toNat]? =some s):
  W.drop d=if t.load != 0 && beside b t.spot && decide (0<min t.load (1000000 - s)) then
   some {W with bE:=W.bE.set t.owner.toNat (s+min t.load (1000000 - s)),ao:=W.ao.set k (ai.r3 t (-(min t.load (1000000 - s))))} else none:=by
 have aN:W.ao.getD k default=t:=by rw [aX7,aH];rfl
 have aaP:W.bf.getD t.owner.toNat default=b:=by rw [aX7,ag];rfl
 have akg:W.bE.getD t.owner.toNat 0=s:=by rw [aX7,hs];rfl
 unfold ai.drop;rw [hf];simp only [aN,aaP,akg]
theorem aoR {α:Type} {l:List α} {i:Nat} {x:α} (h:l[i]? =some x):l.set i x=l:=by
 apply aZW;intro j;by_cases e:i=j
 ·subst e;rw [aYz (aX8.1 h).1,h]
 ·rw [aYJ e]
end Go.Proofs.YtmeeljmapailnaaGreat
