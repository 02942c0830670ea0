import Derived.Test.YtmeeljmapailnaaGreatGooI
import Derived.Deep.DeepCutAuto
set_option linter.unusedVariables false
set_option linter.unusedSimpArgs false
set_option maxRecDepth 100000
set_option maxHeartbeats 4000000
open Go.RowKit
namespace Go.Proofs.YtmeeljmapailnaaGreat
open Tryz
abbrev aTB:=@List.cons_append
abbrev aUz:=@List.sum_cons
abbrev aU3:=@List.sum_append
section
theorem aoo:eX prog aY.rep 26 57 56:=eX.lV (z:=aY.zero) (k:=7) underlying26 aY.info rfl rfl (by decide) aY.jq
theorem akQ (k:Int):0≤ae.iR k∧ae.iR k≤12:=by unfold ae.iR;split<;>(try split)<;>omega
theorem azv (k:Int):0≤ae.jB k∧ae.jB k≤20:=by unfold ae.jB;split<;>(try split)<;>omega
theorem ajf {k:Int}:(BN k != 0)= !cN k 1 2:=by
 unfold BN;by_cases κ:k=1
 ·subst κ;rfl
 ·by_cases ab:k=2
  ·subst ab;rfl
  ·rw [aR5 κ,aR5 ab,qc (by omega)];rfl
theorem awK {W:ae} {d:cd} (br:Good W) (h:(((((decide (d.aR<0) || decide ((W.aV.length:Int)≤d.aR)) || BN d.what != 0) || decide (W.ba.getD d.aR.toNat 0<ae.iR d.what)) || decide (100≤(W.ak.length:Int))) || decide (1000000≤W.next))=false):
  0≤d.aR∧d.aR<(W.aV.length:Int)∧cN d.what 1 2=true∧ae.iR d.what≤W.ba.getD d.aR.toNat 0∧W.ak.length<100∧W.next<1000000:=by
 simp only [aSJ,aSD,ajf,aTE] at h;obtain ⟨⟨⟨⟨⟨κ,ab⟩,aw⟩,a6⟩,bH⟩,ch⟩:=h;exact ⟨by omega,by omega,aw,by omega,by omega,by omega⟩
theorem agP {W:ae} {d:cd} (br:Good W) (h:(((((decide (d.aR<0) || decide ((W.aV.length:Int)≤d.aR)) || BN d.what != 0) || decide (W.ba.getD d.aR.toNat 0<ae.iR d.what)) || decide (100≤(W.ak.length:Int))) || decide (1000000≤W.next))=true):W.sa d=none:=by
 unfold ae.sa;rw [aR5];intro hc;simp only [aR2,aSq] at hc;obtain ⟨⟨⟨⟨c1,c2⟩,c3⟩,c4⟩,c5⟩:=hc;have c1:=k6 c1;simp only [ajf,c2,aSL,aSq,aTX,aSG,aT5] at h;omega
theorem agO {W:ae} {d:cd} (κ:0≤d.aR) (ab:d.aR<(W.aV.length:Int)) (aw:cN d.what 1 2=true) (a6:ae.iR d.what≤W.ba.getD d.aR.toNat 0) (bH:W.ak.length<100) (ch:W.next<1000000):
  (cN d.aR 0 ((W.aV.length:Int) - 1) && cN d.what 1 2 && decide (ae.iR d.what≤W.ba.getD d.aR.toNat 0) && decide (W.ak.length<100) && decide (W.next<1000000))=true:=by
 rw [pj κ (by omega),aw,aSw a6,aSw bH,aSw ch];rfl
theorem agQ {W:ae} {d:cd} (κ:0≤d.aR) (ab:d.aR<(W.aV.length:Int)) (aw:cN d.what 1 2=true) (a6:ae.iR d.what≤W.ba.getD d.aR.toNat 0) (bH:W.ak.length<100) (ch:W.next<1000000) (h:(!(W.free (W.aV.getD d.aR.toNat default)).isSome)=true):W.sa d=none:=by
 unfold ae.sa;simp only [agO κ ab aw a6 bH ch,aTG];rw [aTf,Option.isSome_eq_false_iff,Option.isNone_iff_eq_none] at h;rw [h]
theorem awJ {W:ae} {d:cd} {c:ax} (κ:0≤d.aR) (ab:d.aR<(W.aV.length:Int)) (aw:cN d.what 1 2=true) (a6:ae.iR d.what≤W.ba.getD d.aR.toNat 0) (bH:W.ak.length<100) (ch:W.next<1000000) (hc:(W.free (W.aV.getD d.aR.toNat default)).getD ⟨0,0⟩=c) (h:(!(W.free (W.aV.getD d.aR.toNat default)).isSome)=false):
  W.sa d=some {W with ak:=W.ak++ [⟨W.next,d.aR,d.what,c,ae.jB d.what,0⟩],next:=W.next+1,ba:=W.ba.set d.aR.toNat (W.ba.getD d.aR.toNat 0 - ae.iR d.what)}:=by
 unfold ae.sa;simp only [agO κ ab aw a6 bH ch,aTG];cases hf:W.free (W.aV.getD d.aR.toNat default) with
 | none=>rw [hf] at h;cases h
 | some b5=>rw [hf] at hc;obtain rfl:b5=c:=hc;rfl
theorem awI {W:ae} {d:cd} (br:Good W) (κ:0≤d.aR) (ab:d.aR<(W.aV.length:Int)):(0≤(W.aV.getD d.aR.toNat default).x∧(W.aV.getD d.aR.toNat default).x≤100∧0≤(W.aV.getD d.aR.toNat default).y∧(W.aV.getD d.aR.toNat default).y≤100)∧d.aR.toNat<W.aV.length:=by
 have bz:d.aR.toNat<W.aV.length:=by omega
 have:=(br.aV _ _ (c8 (u:=default) bz)).1;obtain ⟨i1,i2,i3,i4,i5,i6⟩:=aE.idx br.field (aE.ky this);obtain ⟨N6,N7,Tm,Tn,_,_⟩:=aE.jY br.field;exact ⟨⟨by omega,by omega,by omega,by omega⟩,bz⟩
theorem auM {W:ae} {p c:ax} (hp:0≤p.x∧p.x≤100∧0≤p.y∧p.y≤100) (hc:(W.free p).getD ⟨0,0⟩=c): -1≤c.x∧c.x≤101∧ -1≤c.y∧c.y≤101:=by
 cases hf:W.free p with
 | none=>rw [hf] at hc;subst hc;decide
 | some q =>
  rw [hf] at hc;obtain rfl:q=c:=hc;have:=aTK hf;simp only [ae.around,aSh,aTn,aT5] at this;rcases this with rfl | rfl | rfl | rfl | rfl | rfl | rfl | rfl | rfl | rfl<;>(try dsimp only)<;>omega
theorem awG (d:cd) (w:World) (aD S:Nat) (a:ae.b2) (W:ae) (h:l9 w aD S a W) (br:Good W):
  Calls prog 107 #[.pointer (some ⟨S,0,none⟩), .agg #[.int .i64 d.kind, .int .i64 d.aR, .int .i64 d.spot.x, .int .i64 d.spot.y, .int .i64 d.what]] w (xp W (W.sa d) w aD S a):=by
 have tj:=br.sl;have jy:=h.low;have s8:aD≤w.heap.size:=by have:=h.low;have:=h.fy.lt;omega
 have iz:=h.a_;have ni:=h.fy.lt;have bp:=h.fy;have aS:=h.own;have yy:=λ q I=>(aS.lt q I).2;have xC:∀ q∈bo.bS a,q=S→False:=λ q I Φ=>iz (Φ ▸ I);refine cl (n:=126) func107 Z Z Z ?_;refine aj<|cA Z Z Z Z λ l0 A3 kR MR dD=> ?_;have:=kR.size;have fJ:=(Mod.bN (S::bo.bS a) w).trans (Mod.bE kR);have R_:=dD.lt;refine va Z<|ai<|aj<|J (av aeC Z)<|J (ao Z (dD.one bc Z))<|ca K4 Z Z ((MO d.what _).mono ?_);rintro e ve ⟨rfl,bl⟩;refine ⟨_,Z, ?_⟩;have:=bl.size;have kn:=fJ.trans (Mod.bE bl);refine vm Z<|J (ex Z Z)<|J (ex Z Z)<|al Z K5 Z Z λ Ai Uz kP ay7 gF=> ?_;have:=kP.size;have kC:=kn.trans (Mod.bE kP);have ak1:=gF.lt;refine st (new:= [.int .i64 (ae.jB d.what), .int .i64 (D9 d.what), .int .i64 (r4 d.what), .int .i64 (ae.iR d.what)]) Z Z gF Z K6 Z Z Z λ GH mP gF=> ?_;have:=mP.size;have sJ:=kC.md mP (λ q I=> .inr (by have:=aRT.1 I;omega));refine va Z<|ai<|aA<|aA<| ?_;refine rd [(1,0),(5,0),(10,0),(23,0),(25,0),(27,0),(29,0),(37,0),(46,0)] [0,1,2,3,4,5,6,7,8,9,10,11,12,13,14,15,16,17,18,19,20,21,22,23,24,25,26,27,28,29,30,31,32,33,34,35,36,37,38,39,40,41,42,43,44,45,46,47,48] (by kernel_rfl) (by kernel_rfl) ?_;refine au Z (λ _=>av zp Z)<| ?_;have dD:=dD.later (γ bl kP);have dD:=dD.mod mP aM;refine bJ Z (λ _ x=>ao Z ((dD.later x).one bc Z))<|au Z (λ _=>blt Z Z)<|au Z (λ _=>aK Z)<|a1 Z Z Z Z Z Z (λ hc _=>av zp Z) Z<|cx Z Z Z Z Z Z (λ hc _ x=>ao (gt hc Z) ((dD.later x).one bc Z)) Z<|a1 Z Z Z Z Z Z (λ hc _=>aK Z) Z<|a1 Z Z Z Z Z Z (λ hc _=>b0 (gt hc Z)) Z<|a1 Z Z Z Z Z Z (λ hc _=>av nK (gt hc Z)) Z<|a1 Z Z Z Z Z Z (λ hc _=>av uC (gt hc Z)) Z<| ?_;have bp:=bp.later (γ kR (γ bl kP));have bp:=bp.mod mP aM;refine cx Z Z Z Z Z Z (λ hc _ x=>ao (gt hc Z) ((bp.later x).one zw Z)) Z<|a1 Z Z Z Z Z Z (λ hc _=>cG underlying25 (gt hc Z)) Z<|a1 Z Z Z Z Z Z (λ hc _=>ks (gt hc Z) (gt hc Z)) Z<|au Z (λ _=>fB Z Z Z Z)<|au Z (λ _=>aK Z)<|a1 Z Z Z Z Z Z (λ hc _=>aK Z) Z<|a1 Z Z Z Z Z Z (λ hc _=>bne (gt hc Z) Z) Z<|au Z (λ _=>fB Z Z Z Z)<|au Z (λ _=>aK Z)<|a1 Z Z Z Z Z Z (λ hc _=>aK Z) Z<|a1 Z Z Z Z Z Z (λ hc _=>b0 (gt hc Z)) Z<|a1 Z Z Z Z Z Z (λ hc _=>av nK (gt hc Z)) Z<|a1 Z Z Z Z Z Z (λ hc _=>av vU (gt hc Z)) Z<|cx Z Z Z Z Z Z (λ hc _ x=>ao (gt hc Z) ((bp.later x).one gu Z)) Z<|a1 Z Z Z Z Z Z (λ hc _=>av zp Z) Z<|cx Z Z Z Z Z Z (λ hc _ x=>ao (gt hc Z) ((dD.later x).one bc Z)) Z<| ?_;have aS:=aS.later (γ kR (γ bl kP));have aS:=aS.mod mP (bI yy);refine a1 Z Z Z Z Z Z (λ hc _=>b9 d.aR.toNat underlying22 dx (gt hc Z) (gt hc Z) (aS.S.has.bP (bb d.aR.toNat (by (try simp only [cE] at hc);omega))) (by (try simp only [cE] at hc);omega) (by (try simp only [cE] at hc);omega)) Z<|cx Z Z Z Z Z Z (λ hc _ x=>ao (gt hc Z) (τ.aJ.fR gw (by rw [← (aS.later x).S.has.bP (bb d.aR.toNat (by (try simp only [cE] at hc);omega))];exact (aS.later x).S.has) (c8 (l:=W.ba) (u:=0) (by (try simp only [cE] at hc);omega)) Z bc)) Z<|a1 Z Z Z Z Z Z (λ hc _=>av P0 Z) Z<|cx Z Z Z Z Z Z (λ hc _ x=>ao (gt hc Z) ((gF.later x).one bc Z)) Z<|a1 Z Z Z Z Z Z (λ hc _=>blt (gt hc Z) (gt hc Z)) Z<|au Z (λ _=>fB Z Z Z Z)<|au Z (λ _=>aK Z)<|a1 Z Z Z Z Z Z (λ hc _=>aK Z) Z<|a1 Z Z Z Z Z Z (λ hc _=>b0 (gt hc Z)) Z<|a1 Z Z Z Z Z Z (λ hc _=>av nK (gt hc Z)) Z<|a1 Z Z Z Z Z Z (λ hc _=>av ku (gt hc Z)) Z<|cx Z Z Z Z Z Z (λ hc _ x=>ao (gt hc Z) ((bp.later x).one ma Z)) Z<|a1 Z Z Z Z Z Z (λ hc _=>cG underlying26 (gt hc Z)) Z<|a1 Z Z Z Z Z Z (λ hc _=>ks (gt hc Z) Z) Z<|au Z (λ _=>fB Z Z Z Z)<|au Z (λ _=>aK Z)<|a1 Z Z Z Z Z Z (λ hc _=>aK Z) Z<|a1 Z Z Z Z Z Z (λ hc _=>b0 (gt hc Z)) Z<|a1 Z Z Z Z Z Z (λ hc _=>av nK (gt hc Z)) Z<|a1 Z Z Z Z Z Z (λ hc _=>av KX (gt hc Z)) Z<|cx Z Z Z Z Z Z (λ hc _ x=>ao (gt hc Z) ((bp.later x).one bc Z)) Z<|a1 Z Z Z Z Z Z (λ hc _=>ks (gt hc Z) Z) Z<|au Z (λ _=>fB Z Z Z Z)<|fn λ Ch dO=> ?_;have:=dO.size;have kD:=sJ.trans (Mod.bE dO);refine aU<| ?_;refine ed Z (λ rX=> ?_) (λ rX=> ?_)
 ·refine aj<|va Z<|ai<|rt<|bT<|bd (.tmp Z .nil)<| ?_;have bp:=bp.later dO;have aS:=aS.later dO;exact ⟨a,by rw [agP br rX];rfl,by rw [agP br rX];exact ⟨bp,aS,iz,jy⟩,λ q I=> .inl I,kD⟩
 ·obtain ⟨κ,ab,aw,a6,bH,ch⟩:=awK br rX;obtain ⟨p6,bz⟩:=awI br κ ab;have iO:=br.ba _ _ (c8 (u:=0) (l:=W.ba) (j:=d.aR.toNat) (by omega));obtain ⟨c,hc⟩:∃ c,(W.free (W.aV.getD d.aR.toNat default)).getD ⟨0,0⟩=c:=⟨_,rfl⟩;have aK9:=akQ d.what;have aLq:=k6 aw;have th:=br.next;have hlen:=br.dV;have Ii:=br.kg;have aKj:=auM p6 hc;refine bu<|aA<| ?_;refine rd [(5,0),(7,0),(9,0),(10,0),(14,2),(15,3)] [0,1,2,3,4,5,6,7,8,9,10,11,12,13,14,15,16] (by kernel_rfl) (by kernel_rfl) ?_;refine au Z (λ _=>aK Z)<|au Z (λ _=>aK Z)<|au Z (λ _=>b0 Z)<|au Z (λ _=>av nK Z)<|au Z (λ _=>av uC Z)<| ?_;have bp:=bp.later dO;refine bJ Z (λ _ x=>ao Z ((bp.later x).one zw Z))<|au Z (λ _=>av zp Z)<| ?_;have dD:=dD.later dO;refine bJ Z (λ _ x=>ao Z ((dD.later x).one bc Z))<| ?_;have aS:=aS.later dO;refine au Z (λ _=>b9 d.aR.toNat underlying25 bU Z Z (aS.B.has.bP (bb d.aR.toNat)) (by omega) (by omega))<|bJ Z (λ _ x=>ao Z (τ.aJ.ik BA (by rw [← (aS.later x).B.has.bP (bb d.aR.toNat)];exact (aS.later x).B.has) (c8 (l:=W.aV) (u:=default) (by omega)) cm bU))<|p2 Z Z asL Z (λ _ x=>auL (W.aV.getD d.aR.toNat default) _ aD S a W (⟨(bp.later x),(aS.later x),iz,jy⟩) br p6) Z<|au Z (λ _=>aK Z)<|au Z (λ _=>ex Z Z)<|au Z (λ _=>ex Z Z)<|gv Z Z Z λ SW sG Q hK=>al Z xG Z Z λ tN KG iV ajs l6=>hK _ _ ⟨γ sG iV, ?_⟩;have:=sG.size;have Au:=kD.trans (Mod.bE sG);have:=iV.size;have ia:=Au.trans (Mod.bE iV);have aB3:=l6.lt;refine eK Z Z Z λ yD eA Q hK=>st Z Z (l6.later eA) Z bU Z Z Z λ wQ lD l6=>hK _ _ ?_;have:=eA.size;have j_:=ia.trans (Mod.bE eA);have:=lD.size;have mC:=j_.md lD (λ q I=> .inr (by have:=aRT.1 I;omega));refine au Z (λ _=>fF Z)<|fn λ Z6 n3=> ?_;have:=n3.size;have tU:=mC.trans (Mod.bE n3);refine aU<|aA<|aj<|vm Z<|J (dV Z)<|ai<| ?_;refine ed Z (λ Ds=> ?_) (λ Ds=> ?_)
  ·refine aj<|va Z<|ai<|rt<|bT<|bd (.tmp Z .nil)<| ?_;have bp:=bp.later (γ sG (γ iV eA));have bp:=bp.mod lD aM;have bp:=bp.later n3;have aS:=aS.later (γ sG (γ iV eA));have aS:=aS.mod lD (bI yy);have aS:=aS.later n3;exact ⟨a,by rw [agQ κ ab aw a6 bH ch Ds];rfl,by rw [agQ κ ab aw a6 bH ch Ds];exact ⟨bp,aS,iz,jy⟩,λ q I=> .inl I,tU⟩
  ·refine bu<|aA<| ?_;refine rd [(5,0),(10,0),(12,0),(14,0),(15,0),(17,0),(19,2),(20,3),(24,3)] [0,1,2,3,4,5,6,7,8,9,10,11,12,13,14,15,16,17,18,19,20,21,22,23,24] (by kernel_rfl) (by kernel_rfl) ?_;refine au Z (λ _=>aK Z)<|au Z (λ _=>aK Z)<|au Z (λ _=>b0 Z)<|au Z (λ _=>av nK Z)<|au Z (λ _=>av ku Z)<| ?_;have bp:=bp.later (γ sG (γ iV eA));have bp:=bp.mod lD aM;have bp:=bp.later n3;refine bJ Z (λ _ x=>ao Z ((bp.later x).one ma Z))<|au Z (λ _=>aK Z)<|au Z (λ _=>b0 Z)<|au Z (λ _=>av nK Z)<|au Z (λ _=>av KX Z)<|bJ Z (λ _ x=>ao Z ((bp.later x).one bc Z))<|au Z (λ _=>av zp Z)<| ?_;have dD:=dD.later (γ sG (γ iV eA));have dD:=dD.mod lD aM;have dD:=dD.later n3;refine bJ Z (λ _ x=>ao Z ((dD.later x).one bc Z))<|au Z (λ _=>av aeC Z)<|bJ Z (λ _ x=>ao Z ((dD.later x).one bc Z))<| ?_;have l6:=l6.later n3;refine bJ Z (λ _ x=>ao Z ((l6.later x).all cm bU))<|au Z (λ _=>av asM Z)<| ?_;have gF:=gF.later (γ dO (γ sG (γ iV eA)));have gF:=gF.mod lD aM;have gF:=gF.later n3;refine bJ Z (λ _ x=>ao Z ((gF.later x).one bc Z))<|rT (v:= .agg #[.int .i64 W.next, .int .i64 d.aR, .int .i64 d.what, .int .i64 ((((W.free (W.aV.getD d.aR.toNat default)).getD ⟨0,0⟩)).x), .int .i64 ((((W.free (W.aV.getD d.aR.toNat default)).getD ⟨0,0⟩)).y), .int .i64 (ae.jB d.what), .int .i64 0]) Z Z (λ _=>cI Z (by kernel_rfl)) Z<|gv Z Z Z λ Jw iE Q hK=>cX (e:= 57) (cs:= [.int .i64 W.next, .int .i64 d.aR, .int .i64 d.what, .int .i64 ((((W.free (W.aV.getD d.aR.toNat default)).getD ⟨0,0⟩)).x), .int .i64 ((((W.free (W.aV.getD d.aR.toNat default)).getD ⟨0,0⟩)).y), .int .i64 (ae.jB d.what), .int .i64 0]) Z (λ _=>by kernel_rfl) Z λ Ao vF iX X_ xd=>hK _ _ ⟨γ iE iX, ?_⟩;have:=iE.size;have oT:=tU.trans (Mod.bE iE);have:=iX.size;have lq:=oT.trans (Mod.bE iX);have R8:=xd.lt;have aS:=aS.later (γ sG (γ iV eA));have aS:=aS.mod lD (bI yy);have aS:=aS.later (γ n3 (γ iE iX));refine eK Z Z Z λ Z7 n8 Q hK=>ap aoo τ.dI (aS.later n8).T ((aP.gS (R:=aY.rep) (by_:=56) (q:=(⟨W.next,d.aR,d.what,c,ae.jB d.what,0⟩:aY)) xd ⟨(by rw [← hc];rfl),bM.2 (by dsimp only;omega),bM.2 (by dsimp only;omega),bM.2 (by dsimp only;omega),bM.2 (by dsimp only;omega),bM.2 (by dsimp only;omega),bM.2 (by dsimp only;have:=azv d.what;omega),bM.2 (by dsimp only;omega)⟩ (by decide)).keep n8) Z Z (by simp;omega) (by simp;omega) (by have:=n8.size;omega) Z λ JA CE o4 iq rF vW akc=>hK _ _ ?_;have:=n8.size;have G5:=lq.trans (Mod.bE n8);have aS:=aS.later n8;have bp:=bp.later (γ iE (γ iX n8));have:=iq.size;have vt:=G5.md iq (λ q I=> .inl (aSa _ (rS I)));have oc:=aS.swapT iq rF vW;have PN:∀ q∈bo.bS {a with T:=CE,t:=o4},q=S→False:=λ q I Φ=>(afp (aD:=aD) (w:=w) (W:=W) I).elim (λ h=>xC q h Φ) (λ h=>(vW q h).elim (λ ab=>xC q (rS ab) Φ) (λ ab=>by omega));have arL:∀ q∈τ.ah a.T,q=S→False:=λ q I Φ=>by (exact xC q (rS I) Φ)
   have bp:=bp.mod iq (λ I=>arL _ I rfl);have tK:=λ q I=>(oc.lt q I).2;refine au Z (λ _=>b0 Z)<|au Z (λ _=>av nK Z)<|au Z (λ _=>av ku Z)<|eK Z Z Z λ S4 tS Q hK=>st (new:= [.int .i64 W.field.wide, .int .i64 W.field.high, .slice a.P W.field.aW.length a.p, .slice a.B W.aV.length a.b, .slice a.S W.ba.length a.s, .slice a.M W.bk.length a.m, .slice CE ((W.ak++ [(⟨W.next,d.aR,d.what,c,ae.jB d.what,0⟩:aY)]).length) o4, .int .i64 W.next, .int .i64 W.now]) Z Z (bp.later tS) Z K7 Z Z Z λ GM zS bp=>hK _ _ ?_;have:=tS.size;have yQ:=vt.trans (Mod.bE tS);have:=zS.size;have yR:=yQ.md zS (λ q I=> .inl (by rw [aRT.1 I];exact aSj));refine fn λ Es h_=> ?_;have:=h_.size;have qH:=yR.trans (Mod.bE h_);refine aU<|aj<|vm Z<|J (b0 Z)<|J (av nK Z)<|J (av KX Z)<| ?_;have bp:=bp.later h_;refine J (ao Z (bp.one bc Z))<|J (bad Z Z (bD (by omega)))<|J (b0 Z)<|J (av nK Z)<|J (av KX Z)<|st (new:= [.int .i64 W.field.wide, .int .i64 W.field.high, .slice a.P W.field.aW.length a.p, .slice a.B W.aV.length a.b, .slice a.S W.ba.length a.s, .slice a.M W.bk.length a.m, .slice CE ((W.ak++ [(⟨W.next,d.aR,d.what,c,ae.jB d.what,0⟩:aY)]).length) o4, .int .i64 (W.next+1), .int .i64 W.now]) Z Z bp Z dx Z Z Z λ GN hg bp=> ?_;have:=hg.size;have ob:=qH.md hg (λ q I=> .inl (by rw [aRT.1 I];exact aSj));refine ai<|aA<| ?_;refine rd [(4,0),(6,0),(8,0),(10,0),(13,3)] [0,1,2,3,4,5,6,7,8,9,10,11,12,13] (by kernel_rfl) (by kernel_rfl) ?_;refine au Z (λ _=>aK Z)<|au Z (λ _=>b0 Z)<|au Z (λ _=>av nK Z)<|au Z (λ _=>av vU Z)<|bJ Z (λ _ x=>ao Z ((bp.later x).one gu Z))<|au Z (λ _=>av zp Z)<| ?_;have dD:=dD.later (γ iE (γ iX n8));have U_:∀ q∈τ.ah a.T,q=A3→False:=λ q I Φ=>by (have:=yy q (rS I);omega)
   have dD:=dD.mod iq (λ I=>U_ _ I rfl);have dD:=dD.later tS;have dD:=dD.mod zS aM;have dD:=dD.later h_;have dD:=dD.mod hg aM;refine bJ Z (λ _ x=>ao Z ((dD.later x).one bc Z))<| ?_;have oc:=oc.later tS;have oc:=oc.mod zS (λ q I h=>by have Φ:=aRT.1 h;exfalso;(exact PN q I Φ));have oc:=oc.later h_;have oc:=oc.mod hg (λ q I h=>by have Φ:=aRT.1 h;exfalso;(exact PN q I Φ));refine au Z (λ _=>b9 d.aR.toNat underlying22 dx Z Z (oc.S.has.bP (bb d.aR.toNat (by show d.aR.toNat<W.ba.length;omega))) (by omega) (by show d.aR.toNat<W.ba.length;omega))<|bJ Z (λ _ x=>ao Z (τ.aJ.fR gw (by rw [← (oc.later x).S.has.bP (bb d.aR.toNat (by show d.aR.toNat<W.ba.length;omega))];exact (oc.later x).S.has) (c8 (l:=W.ba) (u:=0) (by show d.aR.toNat<W.ba.length;omega)) Z bc))<|au Z (λ _=>av P0 Z)<| ?_;have gF:=gF.later (γ iE (γ iX n8));have arN:∀ q∈τ.ah a.T,q=Uz→False:=λ q I Φ=>by (have:=yy q (rS I);omega)
   have gF:=gF.mod iq (λ I=>arN _ I rfl);have gF:=gF.later tS;have gF:=gF.mod zS aM;have gF:=gF.later h_;have gF:=gF.mod hg aM;refine bJ Z (λ _ x=>ao Z ((gF.later x).one bc Z))<|au Z (λ _=>mJ Z Z (bD (by omega)))<|au Z (λ _=>b9 d.aR.toNat underlying22 dx Z Z (oc.S.has.bP (bb d.aR.toNat (by show d.aR.toNat<W.ba.length;omega))) (by omega) (by show d.aR.toNat<W.ba.length;omega))<|eK Z Z Z λ amZ yK Q hK=>so (q':=W.ba.getD d.aR.toNat 0 - ae.iR d.what) (j:=0) (i:=d.aR.toNat) (oc.later yK).S τ.dI (c8 (u:=0) (l:=W.ba) (by omega)) Z Z Z Z (λ _ cs h=>by obtain rfl:=gw h;exact ⟨rfl,bM.2 (by omega)⟩) Z Z dx λ aaa uS ao6=>hK _ _ ?_;have:=yK.size;have On:=ob.trans (Mod.bE yK);have oc:=oc.later yK;have bp:=bp.later yK;have:=uS.size;have G9:=On.md uS (λ q I=> .inl (aSa _ (FH (a:=a) I)));have EY:=oc.alG uS ao6;have arO:∀ q∈τ.ah a.S,q=S→False:=λ q I Φ=>by (exact PN q (FH I) Φ)
   have bp:=bp.mod uS (λ I=>arO _ I rfl);have aEm:=λ q I=>(EY.lt q I).2;refine fn λ N0 kB=> ?_;have:=kB.size;have ru:=G9.trans (Mod.bE kB);refine aU<|aj<|va Z<|ai<|rt<|bd (.tmp Z .nil)<| ?_;have bp:=bp.later kB;have EY:=EY.later kB;rw [awJ κ ab aw a6 bH ch hc Ds];exact ⟨{a with T:=CE,t:=o4},Z,⟨by simpa [ae.cells] using bp,EY.alF rfl rfl rfl rfl rfl ⟨EY.nums.1,EY.nums.2.1,bM.2 (by show -9223372036854775808≤W.next+1∧W.next+1≤9223372036854775807;omega),EY.nums.2.2.2⟩,λ I=>PN _ I rfl,jy⟩,λ q I=>(afp (aD:=aD) (w:=w) (W:=W) I).elim .inl (λ h=>(vW q h).elim (λ h=> .inl (rS h)) (λ h=> .inr (by omega))),ru⟩
end
section
theorem aA5 (a:ae.b2) (W:ae) (w:World) (bG:ae.Has w a W):
    Calls prog 62 #[.agg (ae.cells a W).toArray] w λ e w'=>∃ a':ae.b2,e= .returned (.agg (ae.cells a' W).toArray)∧bo w' w.heap.size a' W∧Below w.heap.size w w':=by
  obtain ⟨eT,gj,gl,fE,eZ,fr,fP,gy,fW,fH⟩:=a;show Calls _ _ #[.agg #[.int .i64 W.field.wide, .int .i64 W.field.high, .slice eT W.field.aW.length fr, .slice gj W.aV.length fP, .slice gl W.ba.length gy, .slice fE W.bk.length fW, .slice eZ W.ak.length fH, .int .i64 W.next, .int .i64 W.now]] _ _;have cH:=lN w (.cells #[.int .i64 W.field.wide, .int .i64 W.field.high, .slice eT W.field.aW.length fr, .slice gj W.aV.length fP, .slice gl W.ba.length gy, .slice fE W.bk.length fW, .slice eZ W.ak.length fH, .int .i64 W.next, .int .i64 W.now] 28);have hA:=aP.new w [.int .i64 W.field.wide, .int .i64 W.field.high, .slice eT W.field.aW.length fr, .slice gj W.aV.length fP, .slice gl W.ba.length gy, .slice fE W.bk.length fW, .slice eZ W.ak.length fH, .int .i64 W.next, .int .i64 W.now] 28 (0,0);obtain ⟨w0,jN⟩:∃ w0,Hid (w.alloc (.cells #[.int .i64 W.field.wide, .int .i64 W.field.high, .slice eT W.field.aW.length fr, .slice gj W.aV.length fP, .slice gl W.ba.length gy, .slice fE W.bk.length fW, .slice eZ W.ak.length fH, .int .i64 W.next, .int .i64 W.now] 28)=w0):=⟨_,aRY rfl⟩;rw [jN.out] at cH;have jK:Hid (aP w0 w.heap.size [.int .i64 W.field.wide, .int .i64 W.field.high, .slice eT W.field.aW.length fr, .slice gj W.aV.length fP, .slice gl W.ba.length gy, .slice fE W.bk.length fW, .slice eZ W.ak.length fH, .int .i64 W.next, .int .i64 W.now] 28 (0,0)):=by rw [← jN.out];exact hA
  have XI:w0.heap.size=w.heap.size+1:=by rw [← jN.out];simp
  have WU:=lN w0 (.cells #[.int .i64 0, .int .i64 0, .slice none 0 0, .slice none 0 0, .slice none 0 0, .slice none 0 0, .slice none 0 0, .int .i64 0, .int .i64 0] 28);have hR:=aP.new w0 [.int .i64 0, .int .i64 0, .slice none 0 0, .slice none 0 0, .slice none 0 0, .slice none 0 0, .slice none 0 0, .int .i64 0, .int .i64 0] 28 (0,0);rw [XI] at hR;obtain ⟨Cn,T5⟩:∃ Cn,Hid (w0.alloc (.cells #[.int .i64 0, .int .i64 0, .slice none 0 0, .slice none 0 0, .slice none 0 0, .slice none 0 0, .slice none 0 0, .int .i64 0, .int .i64 0] 28)=Cn):=⟨_,aRY rfl⟩;rw [T5.out] at WU;have ct:Hid (aP Cn (w.heap.size+1) [.int .i64 0, .int .i64 0, .slice none 0 0, .slice none 0 0, .slice none 0 0, .slice none 0 0, .slice none 0 0, .int .i64 0, .int .i64 0] 28 (0,0)):=by rw [← T5.out];exact hR
  have jK:=aRY (jK.out.later WU);have cH:=cH.trans (WU.mono cH.size);have af9:=bG.keep cH;have AS:=aRY (λ V (h:Below Cn.heap.size Cn V)=>vK eT fr W.field.aW V (af9.P.keep h));have aN:=aRY (λ V (h:Below w.heap.size w V)=>PJ gj fP W.aV V (bG.B.keep h));have fv:=aRY (λ V (h:Below w.heap.size w V)=>vK gl gy W.ba V (bG.S.keep h));have lv:=aRY (λ V (h:Below w.heap.size w V)=>vK fE fW W.bk V (bG.M.keep h));have rB:=aRY (λ V (h:Below w.heap.size w V)=>PK eZ fH W.ak V (bG.T.keep h));have ff:=aRY bG.nums;clear bG af9 hA;go_enter func62,ntmps62;go_wp2_with fail
  rw [jN.out,T5.out];go_wp2_with fail
  refine (AS.out _ (aSr _ _)).mono ?_;rintro e aT ⟨eN,oI,rfl,Rf,_,cP⟩;have kJ:=jK.out.later cP;have aKM:=kJ.lt;obtain ⟨bZ,c1,c2,c3,c4,c5,dG,dT,eD⟩:=Eu kJ;have f2:=kJ.free 2 (.inr (aSM _));have bw:Below w.heap.size w (aT.setCell ⟨w.heap.size,2,none⟩ (.slice eN W.field.aW.length oI)):=(cH.trans (cP.mono cH.size)).setCell (p:=⟨w.heap.size,2,none⟩) (aR7 _) _;have Wt:=(ct.out.later cP).other (show w.heap.size+1≠w.heap.size by omega) 2 (.slice eN W.field.aW.length oI);have Qz:=kJ.set 2 (.slice eN W.field.aW.length oI);have Xu:w.heap.size∉τ.ah eN:=I0 Rf (by have:=jK.out.lt;omega);have ahr:w.heap.size+1∉τ.ah eN:=I0 Rf (by have:=ct.out.lt;omega);have Lr:=Rf.other (p:=⟨w.heap.size,2,none⟩) Xu (.slice eN W.field.aW.length oI);obtain ⟨cB,abF⟩:∃ cB,Hid (aT.setCell ⟨w.heap.size,2,none⟩ (.slice eN W.field.aW.length oI)=cB):=⟨_,aRY rfl⟩;rw [abF.out] at bw Qz Lr Wt;have Lr:=Lr.down (show w.heap.size≤_ from cH.size);go_wp2_with fail
  rw [abF.out];go_wp2_with fail
  clear bZ c1 c2 c3 c4 c5 dG dT eD f2 Rf kJ cP;obtain ⟨bZ,c1,c2,c3,c4,c5,dG,dT,eD⟩:=Eu Qz;have xg:=aRY Qz;have abB:=aRY Lr;have O8:Hid (w.heap.size∉τ.ah eN):=aRY Xu;have apb:Hid (w.heap.size+1∉τ.ah eN):=aRY ahr;have abD:=aRY Wt;have aLj:=abD.out.lt;clear Qz Lr Wt Xu ahr;have Du:=aSr cB.heap.size cB;have aLk:=xg.out.lt
  go_cut [9] (λ _ my=>abI w my eN oI W fE fW eZ fH cB.heap.size)
  case first =>
   go_region_law (first
    | (refine Sw rfl 88 _ func88 (by kernel_rfl) (by kernel_rfl) _ _ rfl #[.slice gj W.aV.length fP] (by simp [Act.eval,Act.put]) ?_
       refine (aN.out _ bw.drew).mono ?_;rintro e w3 ⟨eU,m3,rfl,Mg,_,dL⟩;have qX:Below cB.heap.size cB w3:=acX Du dL;have c4:=cell_later qX c4;refine ⟨_,Z, ?_⟩)
    | (refine Sw rfl 77 _ func77 (by kernel_rfl) (by kernel_rfl) _ _ rfl #[.slice gl W.ba.length gy] (by simp [Act.eval,Act.put]) ?_
       refine (fv.out _ (bw.trans (qX.mono bw.size))).mono ?_;rintro e rh ⟨eW,nk,rfl,Mh,_,dz⟩;have r6:Below cB.heap.size cB rh:=oq qX dz;obtain ⟨d0,d1,d2,d3,d4,d5,d6,d7,d8⟩:=Eu (xg.out.later r6);have f3:=(xg.out.later r6).free 3 (.inr (aSM _));have f4:=(xg.out.later r6).free 4 (.inr (aSM _));refine ⟨_,Z, ?_⟩))
   all_goals
    have aKf:w.heap.size<rh.heap.size:=by have:=r6.size;omega
    have af2:=abD.out.later r6;have afK:=xg.out.later r6;have af0:=abB.out.later r6;have afN:=Mg.later dz;have agj:=bw.trans (r6.mono bw.size);have H7:=(afK.set 3 (.slice eU W.aV.length m3)).set 4 (.slice eW W.ba.length nk);have H_:=(af2.other (show w.heap.size+1≠w.heap.size by omega) 3 (.slice eU W.aV.length m3)).other (show w.heap.size+1≠w.heap.size by omega) 4 (.slice eW W.ba.length nk);have H9:=(af0.other (p:=⟨w.heap.size,3,none⟩) O8.out (.slice eU W.aV.length m3)).other (p:=⟨w.heap.size,4,none⟩) O8.out (.slice eW W.ba.length nk);have Bt:=(afN.other (p:=⟨w.heap.size,3,none⟩) (I0 Mg (by show w.heap.size<cB.heap.size;omega)) (.slice eU W.aV.length m3)).other (p:=⟨w.heap.size,4,none⟩) (I0 Mg (by show w.heap.size<cB.heap.size;omega)) (.slice eW W.ba.length nk);have H':=(Mh.other (p:=⟨w.heap.size,3,none⟩) (I0 Mh (by have:=qX.size;show w.heap.size<w3.heap.size;omega)) (.slice eU W.aV.length m3)).other (p:=⟨w.heap.size,4,none⟩) (I0 Mh (by have:=qX.size;show w.heap.size<w3.heap.size;omega)) (.slice eW W.ba.length nk);have oy:Below w.heap.size w ((rh.setCell ⟨w.heap.size,3,none⟩ (.slice eU W.aV.length m3)).setCell ⟨w.heap.size,4,none⟩ (.slice eW W.ba.length nk)):=(agj.setCell (p:=⟨w.heap.size,3,none⟩) (aR7 _) _).setCell (p:=⟨w.heap.size,4,none⟩) (aR7 _) _;have bV:Hid (abI w ((rh.setCell ⟨w.heap.size,3,none⟩ (.slice eU W.aV.length m3)).setCell ⟨w.heap.size,4,none⟩ (.slice eW W.ba.length nk)) eN oI W fE fW eZ fH cB.heap.size):=aRY ⟨eU,m3,eW,nk,w3.heap.size,rh.heap.size,H7,H_,H9,Bt,H',Mg.lt,Mh.lt,oy,qX.size,dz.size,by simp [World.setCell]⟩;clear H7 H_ H9 Bt H' oy Mg Mh af2 afK af0 afN agj qX r6 dL dz bZ c1 c2 c3 c4 c5 dG dT eD d0 d1 d2 d3 d4 d5 d6 d7 d8 f3 f4 Du;go_wp2_with fail
    go_meet
    exact bV.out
  case rest =>
    obtain ⟨eU,m3,eW,nk,qk,su,H7,H_,H9,Bt,H',alb,alc,oy,py,mo,nU⟩:=hcut;obtain ⟨ri,aoO⟩:∃ ri:World,Hid (ri=wc):=⟨wc,aRY rfl⟩;rw [← aoO.out] at H7 H_ H9 Bt H' oy nU ⊢;have aph:=aRY abB.out.lt;have O9:=aRY alb;have O_:=aRY alc;have aoI:=aRY H9;have aot:=aRY Bt;have aoM:=aRY H';have aoJ:=aRY H_;have AL:=aRY H7;clear H7 H_ H9 Bt H' alb alc bZ c1 c2 c3 c4 c5 dG dT eD Du;obtain ⟨bZ,c1,c2,c3,c4,c5,dG,dT,eD⟩:=Eu AL.out;have Du:=aSr ri.heap.size ri;go_wp2_with fail
    go_region_law (first
      | (refine Sw rfl 77 _ func77 (by kernel_rfl) (by kernel_rfl) _ _ rfl #[.slice fE W.bk.length fW] (by simp [Act.eval,Act.put]) ?_
         refine (lv.out _ oy.drew).mono ?_;rintro e SS ⟨nQ,po,rfl,Iz,_,Ic⟩;have LJ:Below ri.heap.size ri SS:=acX Du Ic;have dG:=cell_later LJ dG;refine ⟨_,Z, ?_⟩)
      | (refine Sw rfl 89 _ func89 (by kernel_rfl) (by kernel_rfl) _ _ rfl #[.slice eZ W.ak.length fH] (by simp [Act.eval,Act.put]) ?_
         refine (rB.out _ (oy.trans (LJ.mono oy.size))).mono ?_;rintro e ZY ⟨nY,pA,rfl,IA,_,FT⟩;have xO:Below ri.heap.size ri ZY:=oq LJ FT;obtain ⟨d0,d1,d2,d3,d4,d5,d6,d7,d8⟩:=Eu (AL.out.later xO);have f5:=(AL.out.later xO).free 5 (.inr (aSM _));have f6:=(AL.out.later xO).free 6 (.inr (aSM _));refine ⟨_,Z, ?_⟩))
    all_goals
      have aLy:=xO.size;have ayf:=LJ.size;have awc:=oy.trans (xO.mono oy.size);have df:w.heap.size<SS.heap.size:=by omega
      have fY:w.heap.size<ri.heap.size:=by omega
      have Wi:=((AL.out.later xO).set 5 (.slice nQ W.bk.length po)).set 6 (.slice nY W.ak.length pA);have Wu:=((aoJ.out.later xO).other (show w.heap.size+1≠w.heap.size by omega) 5 (.slice nQ W.bk.length po)).other (show w.heap.size+1≠w.heap.size by omega) 6 (.slice nY W.ak.length pA);have Wr:=((aoI.out.later xO).other (p:=⟨w.heap.size,5,none⟩) O8.out (.slice nQ W.bk.length po)).other (p:=⟨w.heap.size,6,none⟩) O8.out (.slice nY W.ak.length pA);have Wk:=((aot.out.later xO).other (p:=⟨w.heap.size,5,none⟩) (λ h=>by have:=(O9.out _ h).1;simp at this;omega) (.slice nQ W.bk.length po)).other (p:=⟨w.heap.size,6,none⟩) (λ h=>by have:=(O9.out _ h).1;simp at this;omega) (.slice nY W.ak.length pA);have Ls:=((aoM.out.later xO).other (p:=⟨w.heap.size,5,none⟩) (λ h=>by have:=(O_.out _ h).1;simp at this;omega) (.slice nQ W.bk.length po)).other (p:=⟨w.heap.size,6,none⟩) (λ h=>by have:=(O_.out _ h).1;simp at this;omega) (.slice nY W.ak.length pA);have Wq:=((Iz.later FT).other (p:=⟨w.heap.size,5,none⟩) (λ h=>by have:=(Iz.lt _ h).1;simp at this;omega) (.slice nQ W.bk.length po)).other (p:=⟨w.heap.size,6,none⟩) (λ h=>by have:=(Iz.lt _ h).1;simp at this;omega) (.slice nY W.ak.length pA);have Ww:=(IA.other (p:=⟨w.heap.size,5,none⟩) (λ h=>by have:=(IA.lt _ h).1;simp at this;omega) (.slice nQ W.bk.length po)).other (p:=⟨w.heap.size,6,none⟩) (λ h=>by have:=(IA.lt _ h).1;simp at this;omega) (.slice nY W.ak.length pA);have Ie:Below w.heap.size w ((ZY.setCell ⟨w.heap.size,5,none⟩ (.slice nQ W.bk.length po)).setCell ⟨w.heap.size,6,none⟩ (.slice nY W.ak.length pA)):=(awc.setCell (p:=⟨w.heap.size,5,none⟩) (aR7 _) _).setCell (p:=⟨w.heap.size,6,none⟩) (aR7 _) _;have j4:(τ.ah eN++τ.ah eU++τ.ah eW++τ.ah nQ++τ.ah nY).Nodup:=by
        have κ:=Ph (m:=qk) ⟨vG eN,λ g aO=>(aph.out g aO).2⟩ (vG eU) O9.out py;have ab:=Ph κ (vG eW) O_.out mo;have aw:=Ph (n:=ri.heap.size) (m:=SS.heap.size) ⟨ab.1,λ g aO=>by have:=ab.2 g aO;omega⟩ (vG nQ) Iz.lt ayf;exact (Ph aw (vG nY) IA.lt (by have:=FT.size;omega)).1
      obtain ⟨NR,aoP⟩:∃ NR,Hid ((ZY.setCell ⟨w.heap.size,5,none⟩ (.slice nQ W.bk.length po)).setCell ⟨w.heap.size,6,none⟩ (.slice nY W.ak.length pA)=NR):=⟨_,aRY rfl⟩;rw [aoP.out] at Ie Wi Wu Wr Wk Ls Wq Ww ⊢;have aoA:=aRY (show bo NR w.heap.size ⟨eN,eU,eW,nQ,nY,oI,m3,nk,po,pA⟩ W from ⟨Wr,Wk.down (by show w.heap.size≤cB.heap.size;omega),Ls.down (by omega),Wq.down (by show w.heap.size≤ri.heap.size;omega),Ww.down (by omega),j4,ff.out⟩);have aoE:Hid (w.heap.size+1∉bo.bS ⟨eN,eU,eW,nQ,nY,oI,m3,nk,po,pA⟩):=aRY (λ h=>by
        unfold bo.bS at h;simp only [aSb] at h;rcases h with (((h | h) | h) | h) | h
        · exact apb.out h
        · have:=(O9.out _ h).1;omega
        · have:=(O_.out _ h).1;omega
        · have:=(Iz.lt _ h).1;(try simp at this);omega
        · have:=(IA.lt _ h).1;(try simp at this);omega)
      have gq:=aRY Wu;have aos:Hid (aP NR w.heap.size [.int .i64 W.field.wide, .int .i64 W.field.high, .slice eN W.field.aW.length oI, .slice eU W.aV.length m3, .slice eW W.ba.length nk, .slice nQ W.bk.length po, .slice nY W.ak.length pA, .int .i64 W.next, .int .i64 W.now] 28 (0,0)):=aRY Wi;clear Wi Wu Wr Wk Ls Wq Ww j4 Iz IA FT Ic xO LJ bZ c1 c2 c3 c4 c5 dG dT eD d0 d1 d2 d3 d4 d5 d6 d7 d8 f5 f6;obtain ⟨bZ,c1,c2,c3,c4,c5,dG,dT,eD⟩:=Eu aos.out;obtain ⟨e0,aZ,bh,cF,jd,KV,KW,aey,aez⟩:=Eu gq.out;have aB:=λ j=>gq.out.free j (.inr (aSM _));have aJO:=aB 0;have aJP:=aB 1;have aJQ:=aB 2;have aJR:=aB 3;have aJS:=aB 4;have aJT:=aB 5;have aJU:=aB 6;have aJV:=aB 7;have aJW:=aB 8;clear aB;go_wp2_with fail
      obtain ⟨ZZ,aoQ⟩:∃ ZZ,Hid ((((((((((NR.setCell ⟨w.heap.size+1,0,none⟩ (.int .i64 W.field.wide)).setCell ⟨w.heap.size+1,1,none⟩ (.int .i64 W.field.high)).setCell ⟨w.heap.size+1,2,none⟩ (.slice eN W.field.aW.length oI)).setCell ⟨w.heap.size+1,3,none⟩ (.slice eU W.aV.length m3)).setCell ⟨w.heap.size+1,4,none⟩ (.slice eW W.ba.length nk)).setCell ⟨w.heap.size+1,5,none⟩ (.slice nQ W.bk.length po)).setCell ⟨w.heap.size+1,6,none⟩ (.slice nY W.ak.length pA)).setCell ⟨w.heap.size+1,7,none⟩ (.int .i64 W.next)).setCell ⟨w.heap.size+1,8,none⟩ (.int .i64 W.now))=ZZ):=⟨_,aRY rfl⟩;have af3:=aAt gq.out (.int .i64 W.field.wide) (.int .i64 W.field.high) (.slice eN W.field.aW.length oI) (.slice eU W.aV.length m3) (.slice eW W.ba.length nk) (.slice nQ W.bk.length po) (.slice nY W.ak.length pA) (.int .i64 W.next) (.int .i64 W.now);have afZ:=aoA.out.nine aoE.out (.int .i64 W.field.wide) (.int .i64 W.field.high) (.slice eN W.field.aW.length oI) (.slice eU W.aV.length m3) (.slice eW W.ba.length nk) (.slice nQ W.bk.length po) (.slice nY W.ak.length pA) (.int .i64 W.next) (.int .i64 W.now);have QP:=ap9 Ie (show w.heap.size≤w.heap.size+1 by omega) (.int .i64 W.field.wide) (.int .i64 W.field.high) (.slice eN W.field.aW.length oI) (.slice eU W.aV.length m3) (.slice eW W.ba.length nk) (.slice nQ W.bk.length po) (.slice nY W.ak.length pA) (.int .i64 W.next) (.int .i64 W.now);rw [aoQ.out] at af3 afZ QP ⊢;obtain ⟨v0,v1,v2,v3,v4,v5,v6,aEx,aEy⟩:=Eu af3;refine aVW (v:= .agg #[.int .i64 W.field.wide, .int .i64 W.field.high, .slice eN W.field.aW.length oI, .slice eU W.aV.length m3, .slice eW W.ba.length nk, .slice nQ W.bk.length po, .slice nY W.ak.length pA, .int .i64 W.next, .int .i64 W.now]) ?_ Z ⟨⟨eN,eU,eW,nQ,nY,oI,m3,nk,po,pA⟩,Z,afZ,QP⟩;simp [results,results62,go_sem,v0,v1,v2,v3,v4,v5,v6,aEx,aEy]
end
section
theorem aop:eX prog yt 49 4 1:=eX.lV (z:= .bool false) (k:=1) underlying49 (by kernel_rfl) rfl rfl (by decide) (λ j u h=>ald j u h)
theorem ae.aeh {W:ae} {d:cd} (h:d.kind=1):W.jc d=W.nT d:=by unfold ae.jc;rw [aR8 h]
theorem ae.aef {W:ae} {d:cd} (h:d.kind=2):W.jc d=W.drop d:=by unfold ae.jc;rw [aR5 (by omega),aR8 h]
theorem ae.aeg {W:ae} {d:cd} (h:d.kind=3):W.jc d=W.sa d:=by unfold ae.jc;rw [aR5 (by omega),aR5 (by omega),aR8 h]
theorem ae.aei {W:ae} {d:cd} (κ:¬ d.kind=1) (ab:¬ d.kind=2) (aw:¬ d.kind=3):W.jc d=none:=by unfold ae.jc;rw [aR5 κ,aR5 ab,aR5 aw]
theorem Va {W:ae} {V:Option ae} {w aT:World} {aD S:Nat} {a:ae.b2} {f:FuncId} {args:Array Value} (h:Calls prog f args aT (xp W V aT aD S a)) (x:Ext w aT):Calls prog f args aT (xp W V w aD S a):=
 h.mono λ e cB ⟨a2,κ,ab,aw,a6⟩=>⟨a2,κ,ab,λ q I=>(aw q I).imp id λ h=>aSs x.size h,(Mod.bE x).trans a6⟩
theorem az9 (d:cd) (w:World) (aD S:Nat) (a:ae.b2) (W:ae) (h:l9 w aD S a W) (br:Good W):Calls prog 105 #[.pointer (some ⟨S,0,none⟩), .agg #[.int .i64 d.kind, .int .i64 d.aR, .int .i64 d.spot.x, .int .i64 d.spot.y, .int .i64 d.what]] w (xp W (W.nT d) w aD S a):=by
 cases hf:W.ak.findIdx? (hz d.aR) with
 | none=>exact az8 d w aD S a W h br hf
 | some k=>obtain ⟨t,aC,_⟩:=HX hf;exact az7 d w aD S a W h br k t hf aC
theorem ast (d:cd) (w:World) (aD S:Nat) (a:ae.b2) (W:ae) (h:l9 w aD S a W) (br:Good W):Calls prog 106 #[.pointer (some ⟨S,0,none⟩), .agg #[.int .i64 d.kind, .int .i64 d.aR, .int .i64 d.spot.x, .int .i64 d.spot.y, .int .i64 d.what]] w (xp W (W.drop d) w aD S a):=by
 cases hf:W.ak.findIdx? (hz d.aR) with
 | none=>exact ass d w aD S a W h br hf
 | some k=>obtain ⟨t,aC,_⟩:=HX hf;exact drop2 d w aD S a W h br k t hf aC
theorem awH (d:cd) (w:World) (aD S:Nat) (a:ae.b2) (W:ae) (h:l9 w aD S a W) (br:Good W):Calls prog 107 #[.pointer (some ⟨S,0,none⟩), .agg #[.int .i64 d.kind, .int .i64 d.aR, .int .i64 d.spot.x, .int .i64 d.spot.y, .int .i64 d.what]] w (xp W (W.sa d) w aD S a):=awG d w aD S a W h br
theorem l9.mod {w aT:World} {aD S:Nat} {a:ae.b2} {W:ae} {T:List Nat} (h:l9 w aD S a W) (m:Mod T w aT) (hd:∀ q∈T,q≠S∧q∉bo.bS a):l9 aT aD S a W :=
 ⟨h.fy.mod m λ I=>(hd _ I).1 rfl,h.own.mod m λ q I b6=>(hd q b6).2 I,h.a_,h.low⟩
def ae.qQ (W:ae) (l:List cd):Int:=if W.bm≠0 then W.bm else if 200<l.length then 2 else 0
def ae.iK (W:ae) (l:List cd):ae:=if W.qQ l=0 then (W.gH l).1 else ae.zero
def ae.uy (W:ae) (l:List cd):List Bool:=if W.qQ l=0 then (W.gH l).2 else []
def aod (W:ae) (l:List cd) (w:World) (e:Ending) (w':World):Prop :=
 ∃ a' A c,e= .returned (.tuple #[.agg (ae.cells a' (W.iK l)).toArray, .slice A (W.uy l).length c, .int .i64 (W.qQ l)])∧bo w' w.heap.size a' (W.iK l)∧yt.aF 4 1 w' w.heap.size (τ.ah A) A c (W.uy l)∧(∀ q∈τ.ah A,q∉bo.bS a')∧Ext w w'
theorem aeq {W:ae} {l:List cd} (h:¬ W.bm=0):W.iK l=ae.zero∧W.uy l= []∧W.qQ l=W.bm:=by
 have he:W.qQ l=W.bm:=by unfold ae.qQ;rw [aR8 h]
 unfold ae.iK ae.uy;rw [he,aR5 h,aR5 h];exact ⟨Z,Z,Z⟩
theorem aer {W:ae} {l:List cd} (h:W.bm=0) (ay:200<l.length):W.iK l=ae.zero∧W.uy l= []∧W.qQ l=2:=by
 have he:W.qQ l=2:=by unfold ae.qQ;rw [aR5 (by simpa using h),aR8 ay]
 unfold ae.iK ae.uy;rw [he];exact ⟨Z,Z,Z⟩
theorem Vh {W:ae} {l:List cd} (h:W.bm=0) (ay:l.length≤200):W.qQ l=0:=by unfold ae.qQ;rw [aR5 (by simpa using h),aR5 (by omega)]
theorem Vf {W:ae} {l:List cd} (h:W.bm=0) (ay:l.length≤200):W.iK l=(W.gH l).1:=by unfold ae.iK;rw [aR8 (Vh h ay)]
theorem Vg {W:ae} {l:List cd} (h:W.bm=0) (ay:l.length≤200):W.uy l=(W.gH l).2:=by unfold ae.uy;rw [aR8 (Vh h ay)]
theorem ar6 (W:ae) (l:List cd) (d:cd):W.gH (l++ [d])=(((W.gH l).1.jc d).getD (W.gH l).1,(W.gH l).2++ [((W.gH l).1.jc d).isSome]):=by
 induction l generalizing W with
 | nil=>simp only [aUi,ae.gH];cases W.jc d<;>rfl
 | cons x r bx =>
  simp only [aTB,ae.gH];cases W.jc x with
  | none=>simp only [bx];rfl
  | some V=>simp only [bx];rfl
theorem Vb {W:ae} {l:List cd} {k:Nat} (ar:k<l.length):W.gH (l.take (k+1))=(((W.gH (l.take k)).1.jc (l.getD k default)).getD (W.gH (l.take k)).1,(W.gH (l.take k)).2++ [((W.gH (l.take k)).1.jc (l.getD k default)).isSome]):=by
 rw [← ar6,aSn ar];congr 3;rw [aRU,aRX ar];rfl
theorem ar5 (W:ae) (l:List cd):(W.gH l).2.length=l.length:=by
 induction l generalizing W with
 | nil=>rfl
 | cons x r bx =>
  simp only [ae.gH];cases W.jc x with
  | none=>simp only [aR0,bx]
  | some V=>simp only [aR0,bx]
theorem ar4 (d:cd) (w:World) (aD S:Nat) (a:ae.b2) (W:ae) (h:l9 w aD S a W) (br:Good W):
  Calls prog 63 #[.pointer (some ⟨S,0,none⟩), .agg #[.int .i64 d.kind, .int .i64 d.aR, .int .i64 d.spot.x, .int .i64 d.spot.y, .int .i64 d.what]] w (xp W (W.jc d) w aD S a):=by
 refine cl (n:=22) func63 Z Z Z ?_;refine aj<|cA Z Z Z Z λ cC bF a8 ef aa=> ?_;have:=a8.size;have bj:=γ (Ext.bN w) a8;have hx:=bj;have ei:=aa.lt;refine va Z<|ai<|aA<|aj<|J (av asN Z)<|J (ao Z (aa.one bc Z))<|ai<|bL<|aj<|J (beq Z Z)<|va Z<|ai<| ?_;refine ka Z (λ qW=> ?_) (λ qW=> ?_)
 ·refine aj<|vm Z<|J (ao Z (aa.all KY Fz))<|ca asO Z Z ((Va (az9 d _ aD S a W (h.later bj) br) hx).mono ?_);rintro e ve ⟨a2,rfl,hS,hf,hm⟩;refine ⟨_,Z, ?_⟩;refine va Z<|ai<|rt<|e_<|bT<|bd (.tmp Z .nil)<| ?_;exact ⟨a2,by rw [ae.aeh ‹_›];rfl,by rw [ae.aeh ‹_›];exact hS,hf,hm⟩
 ·refine aj<|J (beq Z Z)<|va Z<|ai<| ?_;refine ka Z (λ Bv=> ?_) (λ Bv=> ?_)
  ·refine aj<|vm Z<|J (ao Z (aa.all KY Fz))<|ca asP Z Z ((Va (ast d _ aD S a W (h.later bj) br) hx).mono ?_);rintro e wP ⟨a2,rfl,hS,hf,hm⟩;refine ⟨_,Z, ?_⟩;refine va Z<|ai<|rt<|e_<|bT<|bd (.tmp Z .nil)<| ?_;exact ⟨a2,by rw [ae.aef ‹_›];rfl,by rw [ae.aef ‹_›];exact hS,hf,hm⟩
  ·refine aj<|J (beq Z Z)<|va Z<|ai<| ?_;refine ka Z (λ qV=> ?_) (λ qV=> ?_)
   ·refine aj<|vm Z<|J (ao Z (aa.all KY Fz))<|ca asQ Z Z ((Va (awH d _ aD S a W (h.later bj) br) hx).mono ?_);rintro e Aj ⟨a2,rfl,hS,hf,hm⟩;refine ⟨_,Z, ?_⟩;refine va Z<|ai<|rt<|e_<|bT<|bd (.tmp Z .nil)<| ?_;exact ⟨a2,by rw [ae.aeg ‹_›];rfl,by rw [ae.aeg ‹_›];exact hS,hf,hm⟩
   ·refine fI<|bY<|aU<|aj<|va Z<|ai<|rt<|bd (.tmp Z .nil)<| ?_;exact ⟨a,by rw [ae.aei ‹_› ‹_› ‹_›];rfl,by rw [ae.aei ‹_› ‹_› ‹_›];exact h.later bj,λ q I=> .inl I,Mod.bE bj⟩
theorem asi (l:List cd) (A:Option Addr) (c:Nat) (w:World) (a:ae.b2) (W:ae) (bG:ae.Has w a W) (ay:cd.rep.aJ 40 w A c l):
  Calls prog 33 #[.agg ((ae.cells a W).toArray), .slice A l.length c] w (aod W l w):=by
 have ph:=(Ext.bN w).size;refine cl (n:=40) func33 Z Z Z ?_;refine aj<|cA Z Z Z Z λ cC bF a8 ef aa=> ?_;have:=a8.size;have bj:=γ (Ext.bN w) a8;have ei:=aa.lt;refine al Z ov Z Z λ ew cu bl il ag=> ?_;have:=bl.size;have bO:=γ bj bl;have hW:=ag.lt;refine va Z<|va Z<|ai<|aA<|aj<| ?_;have aa:=aa.later bl;refine J (ao Z (aa.all dc b3))<|ca FE Z Z ((A8 a W _ (bG.keep bO)).mono ?_);rintro e hX ⟨rfl,gM⟩;refine ⟨_,Z, ?_⟩;have:=gM.size;have cY:=γ bO gM;refine va Z<|ai<|aj<|vm Z<|J (bne Z Z)<|ai<| ?_;refine eV Z (λ mb=> ?_) (λ mb=> ?_)
 ·refine aj<|J (v:= .agg #[.int .i64 0, .int .i64 0, .slice none 0 0, .slice none 0 0, .slice none 0 0, .slice none 0 0, .slice none 0 0, .int .i64 0, .int .i64 0]) (cI Z (by kernel_rfl))<|vm Z<| ?_;have ag:=ag.later gM;refine st (new:= [.int .i64 0, .int .i64 0, .slice none 0 0, .slice none 0 0, .slice none 0 0, .slice none 0 0, .slice none 0 0, .int .i64 0, .int .i64 0]) Z Z ag Z b3 Z Z Z λ GH mP ag=> ?_;have:=mP.size;have sJ:=Ext.mod cY mP bt;refine va Z<|va Z<|ai<|rt<|bT<|bd (.cell Z (ag.all dc b3) (.tmp Z (.tmp Z .nil)))<| ?_;obtain ⟨aZ,bh,cF⟩:=aeq ‹_›;exact ⟨⟨none,none,none,none,none,0,0,0,0,0⟩,none,0,by rw [aZ,bh,cF];rfl,by rw [aZ];exact bo.zero _ _,by rw [bh];exact τ.aF.nil _,λ q I=>by simp [τ.ah] at I,sJ⟩
 ·have br:=Good.q_ mb;refine bu<|aA<|aj<|vm Z<|J (cG underlying103 Z)<|J (iJ Z Z)<|ai<| ?_;refine dY Z (λ rW=> ?_) (λ rW=> ?_)
  ·refine aj<|J (v:= .agg #[.int .i64 0, .int .i64 0, .slice none 0 0, .slice none 0 0, .slice none 0 0, .slice none 0 0, .slice none 0 0, .int .i64 0, .int .i64 0]) (cI Z (by kernel_rfl))<| ?_;have ag:=ag.later gM;refine st (new:= [.int .i64 0, .int .i64 0, .slice none 0 0, .slice none 0 0, .slice none 0 0, .slice none 0 0, .slice none 0 0, .int .i64 0, .int .i64 0]) Z Z ag Z b3 Z Z Z λ tM wz ag=> ?_;have:=wz.size;have jH:=Ext.mod cY wz bt;refine va Z<|va Z<|ai<|rt<|bT<|bd (.cell Z (ag.all dc b3) (.tmp Z (.tmp Z .nil)))<| ?_;obtain ⟨aZ,bh,cF⟩:=aer (W:=W) (l:=l) mb (by omega);exact ⟨⟨none,none,none,none,none,0,0,0,0,0⟩,none,0,by rw [aZ,bh,cF];rfl,by rw [aZ];exact bo.zero _ _,by rw [bh];exact τ.aF.nil _,λ q I=>by simp [τ.ah] at I,jH⟩
  ·refine bu<|aj<| ?_;have aa:=aa.later gM;refine J (ao Z (aa.all dc b3))<|ca asR Z Z ((aA5 a W _ (bG.keep cY)).mono ?_);rintro e tN ⟨ck,rfl,aS,fe⟩;refine ⟨_,Z, ?_⟩;have:=fe.size;have ia:=γ cY fe;have Ae:=λ q I=>(aS.lt q I).2;have lo:=λ q I=>(aS.lt q I).1;refine J (v:= .agg #[.int .i64 W.field.wide, .int .i64 W.field.high, .slice ck.P W.field.aW.length ck.p, .slice ck.B W.aV.length ck.b, .slice ck.S W.ba.length ck.s, .slice ck.M W.bk.length ck.m, .slice ck.T W.ak.length ck.t, .int .i64 W.next, .int .i64 W.now]) (cI Z (by kernel_rfl))<|al Z asS Z Z λ yC A4 iW azc AF=> ?_;have:=iW.size;have l4:=γ ia iW;have Y0:=AF.lt;refine st (new:= [.int .i64 W.field.wide, .int .i64 W.field.high, .slice ck.P W.field.aW.length ck.p, .slice ck.B W.aV.length ck.b, .slice ck.S W.ba.length ck.s, .slice ck.M W.bk.length ck.m, .slice ck.T W.ak.length ck.t, .int .i64 W.next, .int .i64 W.now]) Z Z AF Z asT Z Z Z λ wQ lD AF=> ?_;have:=lD.size;have mC:=Ext.mod l4 lD bt;refine ai<|aj<|va Z<|ai<|aA<|aj<|vm Z<|J (cG underlying103 Z)<|vm Z<|ai<|bL<| ?_;have aS:=aS.later iW;have aS:=aS.mod lD (bI Ae);have fv:l9 wQ hX.heap.size A4 ck W:=⟨AF,aS,λ I=>by have:=Ae _ I;omega,by omega⟩;have ag:=ag.later (γ gM (γ fe iW));have ag:=ag.mod lD aM;refine eL (λ cg cf aQ=>∃ k:Nat,∃ a2:ae.b2,∃ CF:Option Addr,∃ PF:Nat,cf= [(4, .pointer (some ⟨cu,0,none⟩)),(5, .slice none 0 0),(6, .int .i64 0),(8, .pointer (some ⟨A4,0,none⟩)),(9, .slice CF ((W.gH (l.take k)).2.length) PF),(25, .slice A l.length c),(26, .int .i64 (l.length:Int)),(27, .int .i64 (k:Int))]∧cg=l.length - k∧Ext w aQ∧aP aQ cu [.int .i64 0, .int .i64 0, .slice none 0 0, .slice none 0 0, .slice none 0 0, .slice none 0 0, .slice none 0 0, .int .i64 0, .int .i64 0] 28 (0,0)∧l9 aQ hX.heap.size A4 a2 (W.gH (l.take k)).1∧yt.aF 4 1 aQ w.heap.size (τ.ah CF) CF PF (W.gH (l.take k)).2∧(k≤l.length)∧(∀ q∈τ.ah CF,q≠A4∧q∉bo.bS a2)∧(∀ q∈τ.ah CF,q=cu→False)) _ _ ⟨0,ck,none,0,Z,Z,mC,ag,fv,(τ.aF.nil _),by omega,λ q I=>by simp [τ.ah] at I,(λ q I Φ=>by (simp [τ.ah] at I))⟩ (.cons Z (.cons Z (.cons Z (.cons Z (.cons Z (.cons Z (.cons Z (.cons (bW Z) .nil)))))))) ?_;rintro ke aHo Z6 ⟨k,a2,CF,PF,rfl,rfl,tU,ag,fv,qM,ar,hd,xD⟩;have:=tU.size;have aPa:=ag.lt;have Ek:=λ q I=>(qM.lt q I).2;have SC:=λ q I=>(fv.own.lt q I).2;have Ig:=fv.fy.lt;have hle:=ay.eE;have Im:(W.gH (l.take k)).2.length=k:=by rw [ar5,aRZ];omega
   refine aj<|J (blt Z Z)<|ai<|aA<| ?_;refine dY Z (λ Bw=> ?_) (λ Bw=> ?_)
   ·refine bu<|aA<|bL<|aj<|J (b9 k underlying103 Fz Z Z ((ay.keep tU).bP (bb k)) Z (by omega))<|J (ao Z (τ.aJ.ik awe (by rw [← (ay.keep tU).bP (bb k)];exact (ay.keep tU)) (c8 (l:=l) (u:=default) (by omega)) KY Fz))<|al Z asU Z Z λ NU A6 jG ajx ES=> ?_;have:=jG.size;have yO:=γ tU jG;have R8:=ES.lt;refine st (new:= [.int .i64 ((l.getD k default).kind), .int .i64 ((l.getD k default).aR), .int .i64 ((l.getD k default).spot.x), .int .i64 ((l.getD k default).spot.y), .int .i64 ((l.getD k default).what)]) Z Z ES Z Fz Z Z Z λ Z7 wC ES=> ?_;have:=wC.size;have G5:=Ext.mod yO wC bt;refine ai<|rg<|vm Z<|J (ao Z (ES.all KY Fz))<| ?_;have fv:=fv.later jG;have fv:=fv.mod wC (λ q I=>by rw [aRT.1 I];exact ⟨by omega,λ hf=>by have:=SC _ hf;have:=(fv.own.lt _ hf).1;omega⟩);have qM:=qM.later jG;have qM:=qM.mod wC (bI Ek);refine ca asV Z Z ((ar4 (l.getD k default) _ hX.heap.size A4 a2 (W.gH (l.take k)).1 fv (br.gH _)).mono ?_);rintro e JC ⟨a3,rfl,oe,hf,n9⟩;refine ⟨_,Z, ?_⟩;have hu:=λ q I=>(qM.lt q I).2;have:=n9.size;have sM:=Ext.mod G5 n9 (λ q I=>(aSh.1 I).elim (λ h=>by rw [h];omega) (λ h=>by have:=(fv.own.lt q h).1;omega));have Ik:∀ q∈τ.ah CF,q≠A4∧q∉bo.bS a3:=λ q I=>⟨(hd q I).1,λ h=>(hf q h).elim (hd q I).2 (λ h=>by have:=hu q I;omega)⟩;have aoL:=fv;have fv:=oe;have SC:=λ q I=>(fv.own.lt q I).2;refine cX (e:= 4) (cs:= [.bool (((W.gH (l.take k)).1.jc (l.getD k default)).isSome)]) Z (λ _=>by kernel_rfl) Z λ JD aIH lI aMM abg=> ?_;have:=lI.size;have qG:=γ sM lI;have aCc:=abg.lt;have qM:=qM.mod n9 (λ q I h=>(aSh.1 h).elim (hd q I).1 (hd q I).2);have qM:=qM.later lI;refine ap aop τ.dI qM (aP.gS (R:=yt) (by_:=1) (q:=((W.gH (l.take k)).1.jc (l.getD k default)).isSome) abg ⟨Z,trivial⟩ (by decide)) Z Z (by simp only [aR0,aR6];omega) (by simp only [aR0,aR6];omega) qG.size Z λ S3 aaQ aqN qh acm afz aN5=> ?_;have:=qh.size;have Cz:=Ext.mod qG qh (λ q I=>(qM.lt q I).1);have aQF:=λ q I=>(acm.lt q I).2;have:=qh.size;have agz:∀ q∈τ.ah aaQ,q≠A4∧q∉bo.bS a3:=λ q I=>(afz q I).elim (Ik q) (λ h=>⟨by omega,λ hf=>by have:=SC q hf;omega⟩);refine va Z<|nl<|bY<|aU<|rg<|J (bad Z Z (bD (by omega)))<|vm Z<|nl<| ?_;have ag:=ag.later jG;have ag:=ag.mod wC aM;have ag:=ag.mod n9 (λ h=>(aSh.1 h).elim (λ h=>by omega) (λ h=>by have:=(aoL.own.lt _ h).1;omega));have ag:=ag.later lI;have ag:=ag.mod qh (λ I=>xD _ I rfl);have fv:=fv.later lI;have fv:=fv.mod qh (λ q I=>Ik q I);exact c9 _ _ ⟨k+1,a3,aaQ,aqN,Z,Z,Cz,ag,(by rw [Vb (by omega:k<l.length)];exact fv),(by rw [Vb (by omega:k<l.length)];exact acm),by omega,agz,(λ q I Φ=>by (exact aR9 (afz q I) (λ DU=>by (exact xD q DU Φ)) (λ DU=>by omega)))⟩ (by omega) (.cons Z (.cons Z (.cons Z (.cons Z (.cons (by rw [Vb (by omega:k<l.length)];rfl) (.cons Z (.cons Z (.cons (bW Z) .nil))))))))
   ·refine dw<|du<|dN<|dt<|aU<|aj<|J (av nK Z)<|J (ao Z (fv.fy.all dc b3))<|vm Z<|st Z Z ag Z b3 Z Z Z λ GN hg ag=> ?_;have:=hg.size;have ob:=Ext.mod tU hg bt;refine va Z<|va Z<|ai<|rt<|bd (.cell Z (ag.all dc b3) (.tmp Z (.tmp Z .nil)))<| ?_;have fv:=fv.mod hg (λ q I=>by rw [aRT.1 I];exact ⟨by omega,λ hf=>by have:=SC _ hf;have:=(fv.own.lt _ hf).1;omega⟩);have qM:=qM.mod hg (λ q I h=>by have Φ:=aRT.1 h;exfalso;(exact xD q I Φ));obtain rfl:k=l.length:=by omega
    refine ⟨a2,CF,PF, ?_, ?_, ?_,λ q I=>(hd q I).2,ob⟩
    ·rw [Vf mb (by omega),Vg mb (by omega),Vh mb (by omega),aSv];rfl
    ·rw [Vf mb (by omega)];rw [aSv] at fv;exact fv.own.down (by omega)
    ·rw [Vg mb (by omega)];rw [aSv] at qM;exact qM
end
section
def wt (t:aY):Int:=t.load+ae.iR t.kind
def ae.total (W:ae):Int:=W.bk.sum+W.ba.sum+(W.ak.map wt).sum
def ae.N1 (W:ae):Int:=if W.bm=0 then W.total else 0
theorem aFl {W:ae} (h:¬ W.bm=0):W.N1=0:=by unfold ae.N1;rw [aR5 h]
theorem aaf {W:ae} (h:W.bm=0):W.N1=W.total:=by unfold ae.N1;rw [aR8 h]
theorem Good.ara {W:ae} (h:Good W):W.bm=0:=h.bm
theorem al7 {l:List Int} {k:Nat} (ar:k<l.length):(l.take (k+1)).sum=(l.take k).sum+l.getD k 0:=by
 rw [aSn ar,aU3,aRU,aRX ar];simp
theorem anj {l:List aY} {k:Nat} (ar:k<l.length):((l.take (k+1)).map wt).sum=((l.take k).map wt).sum+wt (l.getD k default):=by
 rw [aSn ar,aSm,aU3,aRU,aRX ar];simp
theorem Jj {l:List Int} {k:Nat} (h:∀ (i:Nat) x,l[i]? =some x→0≤x∧x≤1000000):0≤(l.take k).sum∧(l.take k).sum≤1000000 * (l.length:Int):=by
 induction l generalizing k with
 | nil=>simp
 | cons x r bx =>
  have hx:=h 0 x rfl;have hr:=λ j=>bx (k:=j) λ i y aI=>h (i+1) y (by simpa using aI);cases k with
  | zero=>simp only [List.take_zero,List.sum_nil,aR0];omega
  | succ k=>have:=hr k;simp only [aVp,aUz,aR0];omega
theorem aai {W:ae} (br:Good W) (k:Nat) (ar:k<W.ak.length):0≤(W.ak.getD k default).load∧(W.ak.getD k default).load≤5∧0≤ae.iR (W.ak.getD k default).kind∧ae.iR (W.ak.getD k default).kind≤12:=by
 have h:=(br.ak k _ (c8 (u:=default) ar)).load;have ab:ae.yf (W.ak.getD k default).kind≤5:=by unfold ae.yf;split<;>omega
 have aw:=akQ (W.ak.getD k default).kind;omega
theorem anh {W:ae} {k:Nat} (br:Good W):0≤((W.ak.take k).map wt).sum∧((W.ak.take k).map wt).sum≤17 * (k:Int):=by
 induction k with
 | zero=>simp
 | succ k bx =>
  by_cases ar:k<W.ak.length
  ·have h:=aai br k ar;rw [anj ar];unfold wt;unfold wt at bx;omega
  ·rw [aSk (by omega)];rw [aSk (by omega)] at bx;omega
theorem ana  (w:World) (a:ae.b2) (W:ae) (bG:ae.Has w a W):
  Calls prog 12 #[.agg ((ae.cells a W).toArray)] w (λ e w'=>e= .returned (.tuple #[.int .i64 W.N1, .int .i64 W.bm])∧Ext w w'):=by
 refine cl (n:=60) func12 Z Z Z ?_;refine aj<|cA Z Z Z Z λ cC bF a8 ef aa=> ?_;have:=a8.size;have bj:=γ (Ext.bN w) a8;have ei:=aa.lt;refine va Z<|va Z<|ai<|aA<|aj<|J (ao Z (aa.all dc b3))<|ca FE Z Z ((A8 a W _ (bG.keep bj)).mono ?_);rintro e ew ⟨rfl,cz⟩;refine ⟨_,Z, ?_⟩;have:=cz.size;have bO:=γ bj cz;refine va Z<|ai<|aj<|vm Z<|J (bne Z Z)<|ai<| ?_;refine eV Z (λ jx=> ?_) (λ jx=> ?_)
 ·refine aj<|vm Z<|va Z<|va Z<|ai<|rt<|bT<|bd (.tmp Z (.tmp Z .nil))<| ?_;exact ⟨by rw [aFl jx];rfl,bO⟩
 ·have br:=Good.q_ jx;have m6:∀ (i:Nat) x,W.bk[i]? =some x→0≤x∧x≤1000000:=λ i x hx=>⟨(br.bk i x hx).1,(br.bk i x hx).2.1⟩;have hS:∀ (i:Nat) x,W.ba[i]? =some x→0≤x∧x≤1000000:=br.ba;have ag0:W.bk.length≤1600:=by rw [br.tD];exact aE.eE br.field
  have aKL:W.ba.length≤8:=by rw [br.sl];exact br.kg
  have bz:=br.dV;have LM:=Jj (k:=W.bk.length) m6;have awb:=Jj (k:=W.ba.length) hS;rw [aSv] at LM awb;refine bu<|aj<|va Z<|ai<|aA<|aj<|J (av Bk Z)<| ?_;have aa:=aa.later cz;refine J (ao Z (aa.one gu Z))<|J (av vU Z)<|J (ao Z (aa.one gu Z))<|J (v:= .agg #[.slice a.M W.bk.length a.m, .slice a.S W.ba.length a.s]) (cI Z (by kernel_rfl))<|vm Z<|ai<|bL<|Gf 3<|k8<|aj<|J (blt Z Z)<|ai<|aA<|fi Z<|bu<|aA<|bL<|aj<|J (v:= .slice a.M W.bk.length a.m) (BL Z Z (by kernel_rfl))<| ?_;refine va Z<|ai<|aj<|vm Z<|J (cG underlying22 Z)<|vm Z<|ai<|bL<| ?_;refine eL (λ cg cf aQ=>∃ k:Nat,cf= [(1, .pointer (some ⟨bF,0,none⟩)),(2, .int .i64 0),(3, .int .i64 0),(5, .int .i64 ((W.bk.take k).sum)),(7, .slice a.M W.bk.length a.m),(23, .agg #[.slice a.M W.bk.length a.m, .slice a.S W.ba.length a.s]),(24, .int .i64 0),(25, .bool true),(26, .slice a.M W.bk.length a.m),(27, .slice a.M W.bk.length a.m),(28, .int .i64 (W.bk.length:Int)),(29, .int .i64 (k:Int))]∧cg=W.bk.length - k∧Ext w aQ∧aP aQ bF (ae.cells a W) 28 (0,0)∧(k≤W.bk.length)) _ _ ⟨0,Z,Z,bO,aa,by omega⟩ (.cons Z (.cons Z (.cons Z (.cons (bW Z) (.cons Z (.cons Z (.cons Z (.cons Z (.cons Z (.cons Z (.cons Z (.cons (bW Z) .nil)))))))))))) ?_;rintro BX aHb Ai ⟨k,rfl,rfl,kC,aa,ar⟩;have:=kC.size;have aOR:=aa.lt;have Bz:=Jj (k:=k) m6;refine aj<|J (blt Z Z)<|ai<|aA<| ?_;refine dY Z (λ WB=> ?_) (λ WB=> ?_)
  ·have bw:=m6 k _ (c8 (l:=W.bk) (j:=k) (u:=0) (by omega));refine bu<|aA<|bL<|aj<|J (b9 k underlying22 dx Z Z ((bG.M.keep kC).bP (bb k)) Z (by omega))<|J (ao Z (τ.aJ.fR gw (by rw [← (bG.M.keep kC).bP (bb k)];exact (bG.M.keep kC)) (c8 (l:=W.bk) (u:=0) (by omega)) Z bc))<|va Z<|ai<|rg<|vm Z<|vm Z<|J (bad Z Z (bD (by omega)))<|va Z<|nl<|bY<|aU<|rg<|J (bad Z Z (bD (by omega)))<|vm Z<|nl<| ?_;exact c9 _ _ ⟨k+1,Z,Z,kC,aa,by omega⟩ (by omega) (.cons Z (.cons Z (.cons Z (.cons (wq Z (by have:=al7 (by omega:k<W.bk.length);omega)) (.cons Z (.cons Z (.cons Z (.cons Z (.cons Z (.cons Z (.cons Z (.cons (bW Z) .nil))))))))))))
  ·obtain rfl:k=W.bk.length:=by omega
   rw [aSv] at Bz;refine dw<|du<|dN<|dt<|bY<|aU<|rg<|J (oo (r:=1) Z Z (by decide) (by decide))<|vm Z<|nl<|oG<|k8<|aj<|J (blt Z Z)<|ai<|aA<|fi Z<|bu<|aA<|bL<|aA<| ?_;refine rg<|J (v:= .slice a.S W.ba.length a.s) (BL Z Z (by kernel_rfl))<|va Z<|ai<|aj<|vm Z<|J (cG underlying22 Z)<|vm Z<|ai<|bL<| ?_;refine eL (λ cg cf aQ=>∃ k:Nat,cf= [(1, .pointer (some ⟨bF,0,none⟩)),(2, .int .i64 0),(3, .int .i64 0),(5, .int .i64 (W.bk.sum+(W.ba.take k).sum)),(7, .slice a.S W.ba.length a.s),(23, .agg #[.slice a.M W.bk.length a.m, .slice a.S W.ba.length a.s]),(24, .int .i64 1),(25, .bool true),(26, .slice a.S W.ba.length a.s),(27, .slice a.S W.ba.length a.s),(28, .int .i64 (W.ba.length:Int)),(29, .int .i64 (k:Int)),(37, .int .i64 1)]∧cg=W.ba.length - k∧Ext w aQ∧aP aQ bF (ae.cells a W) 28 (0,0)∧(k≤W.ba.length)) _ _ ⟨0,Z,Z,kC,aa,by omega⟩ (.cons Z (.cons Z (.cons Z (.cons (bW Z) (.cons Z (.cons Z (.cons Z (.cons Z (.cons Z (.cons Z (.cons Z (.cons (bW Z) (tI Z))))))))))))) ?_;rintro q5 aoj u' ⟨k,rfl,rfl,hE,aa,ar⟩;have:=hE.size;have R7:=aa.lt;have Bz:=Jj (k:=k) hS;refine aj<|J (blt Z Z)<|ai<|aA<| ?_;refine dY Z (λ rW=> ?_) (λ rW=> ?_)
   ·have bw:=hS k _ (c8 (l:=W.ba) (j:=k) (u:=0) (by omega));refine bu<|aA<|bL<|aj<|J (b9 k underlying22 dx Z Z ((bG.S.keep hE).bP (bb k)) Z (by omega))<|J (ao Z (τ.aJ.fR gw (by rw [← (bG.S.keep hE).bP (bb k)];exact (bG.S.keep hE)) (c8 (l:=W.ba) (u:=0) (by omega)) Z bc))<|va Z<|ai<|rg<|vm Z<|vm Z<|J (bad Z Z (bD (by omega)))<|va Z<|nl<|bY<|aU<|rg<|J (bad Z Z (bD (by omega)))<|vm Z<|nl<| ?_;exact c9 _ _ ⟨k+1,Z,Z,hE,aa,by omega⟩ (by omega) (.cons Z (.cons Z (.cons Z (.cons (wq Z (by have:=al7 (by omega:k<W.ba.length);omega)) (.cons Z (.cons Z (.cons Z (.cons Z (.cons Z (.cons Z (.cons Z (.cons (bW Z) (tI Z)))))))))))))
   ·obtain rfl:k=W.ba.length:=by omega
    rw [aSv] at Bz;refine dw<|du<|dN<|dt<|bY<|aU<|rg<|J (oo (r:=2) Z Z (by decide) (by decide))<|vm Z<|nl<|oG<|k8<|aj<|J (blt Z Z)<|ai<|aA<|gZ Z<|dw<|du<|dN<|dt<|aU<| ?_;refine aA<|aj<|J (av ku Z)<|J (ao Z (aa.one ma Z))<|J (cG underlying26 Z)<|vm Z<|ai<|bL<| ?_;refine eL (λ cg cf aQ=>∃ k:Nat,cf= [(2, .int .i64 0),(3, .int .i64 0),(5, .int .i64 (W.bk.sum+W.ba.sum+((W.ak.take k).map wt).sum)),(39, .slice a.T W.ak.length a.t),(40, .int .i64 (W.ak.length:Int)),(41, .int .i64 (k:Int))]∧cg=W.ak.length - k∧Ext w aQ∧(k≤W.ak.length)) _ _ ⟨0,Z,Z,hE,by omega⟩ (.cons Z (.cons Z (.cons (bW Z) (.cons Z (.cons Z (.cons (bW Z) .nil)))))) ?_;rintro wz aHk tM ⟨k,rfl,rfl,jH,ar⟩;have:=jH.size;have Bz:=anh (k:=k) br;refine aj<|J (blt Z Z)<|ai<|aA<| ?_;refine dY Z (λ WD=> ?_) (λ WD=> ?_)
    ·have bw:=aai br k (by omega);refine bu<|aA<|bL<|aj<|J (b9 k underlying26 ih Z Z ((bG.T.keep jH).bP (bb k)) Z (by omega))<|J (ao Z (τ.aJ.ik j0 (by rw [← (bG.T.keep jH).bP (bb k)];exact (bG.T.keep jH)) (c8 (l:=W.ak) (u:=default) (by omega)) uB ih))<|al Z Bi Z Z λ tN KG iV ajs l6=> ?_;have:=iV.size;have ia:=γ jH iV;have aB2:=l6.lt;refine st (new:= [.int .i64 ((W.ak.getD k default).id), .int .i64 ((W.ak.getD k default).owner), .int .i64 ((W.ak.getD k default).kind), .int .i64 ((W.ak.getD k default).spot.x), .int .i64 ((W.ak.getD k default).spot.y), .int .i64 ((W.ak.getD k default).cD), .int .i64 ((W.ak.getD k default).load)]) Z Z l6 Z ih Z Z Z λ GJ ye l6=> ?_;have:=ye.size;have qE:=Ext.mod ia ye bt;refine ai<|aj<|J (av HS Z)<|J (ao Z (l6.one bc Z))<|ca K4 Z Z ((MO ((W.ak.getD k default).kind) _).mono ?_);rintro e Er ⟨rfl,lH⟩;refine ⟨_,Z, ?_⟩;have:=lH.size;have mT:=γ qE lH;refine vm Z<|J (ex Z Z)<|J (ex Z Z)<|al Z K5 Z Z λ wR apY n3 aze ER=> ?_;have:=n3.size;have jJ:=γ mT n3;have aB8:=ER.lt;refine st (new:= [.int .i64 (ae.jB ((W.ak.getD k default).kind)), .int .i64 (D9 ((W.ak.getD k default).kind)), .int .i64 (r4 ((W.ak.getD k default).kind)), .int .i64 (ae.iR ((W.ak.getD k default).kind))]) Z Z ER Z K6 Z Z Z λ Ao RK ER=> ?_;have:=RK.size;have lq:=Ext.mod jJ RK bt;refine va Z<|ai<|rg<|vm Z<|J (av xF Z)<| ?_;have l6:=l6.later (γ lH n3);have l6:=l6.mod RK aM;refine J (ao Z (l6.one bc Z))<|J (av P0 Z)<|J (ao Z (ER.one bc Z))<|J (bad Z Z (bD (by omega)))<|J (bad Z Z (bD (by omega)))<|va Z<|nl<|bY<|aU<|rg<|J (bad Z Z (bD (by omega)))<|vm Z<|nl<| ?_;exact c9 _ _ ⟨k+1,Z,Z,lq,by omega⟩ (by omega) (.cons Z (.cons Z (.cons (wq Z (by rw [anj (by omega:k<W.ak.length)];unfold wt;omega)) (.cons Z (.cons Z (.cons (bW Z) .nil))))))
    ·obtain rfl:k=W.ak.length:=by omega
     refine dw<|du<|dN<|dt<|aU<|aj<|vm Z<|va Z<|va Z<|ai<|rt<|bd (.tmp Z (.tmp Z .nil))<| ?_;exact ⟨by rw [aaf jx,br.ara];unfold ae.total;simp only [aSv];rfl,jH⟩
end
section
def lf:ae:=⟨⟨3,1, [0,0,3]⟩, [⟨0,0⟩], [20], [0,0,9], [⟨1,0,1,⟨1,0⟩,10,0⟩],2,0⟩
def aC8:List cd:= [(⟨1,1,⟨2,0⟩,0⟩:cd),(⟨3,0,⟨0,0⟩,2⟩:cd)]
def aPJ:ae:=lf.iK aC8
end
section
theorem aAw:∀ (n:Nat) (l:List Nat),l.Nodup→(∀ x∈l,x<n)→l.length≤n:=by
 intro n;induction n with
 | zero =>
  intro l _ h;cases l with
  | nil=>exact aR7 _
  | cons x r=>exact absurd (h x aSj) (by omega)
 | succ n bx =>
  intro l hn h;by_cases hm:n∈l
  ·have κ:=bx (l.erase n) (hn.erase _) (λ x hx=>by
    have:=h x (List.mem_of_mem_erase hx);have fl:x≠n:=λ e=>by subst e;exact (List.Nodup.not_mem_erase hn) hx
    omega)
   rw [List.length_erase_of_mem hm] at κ;omega
  ·have:=bx l hn (λ x hx=>by
    have:=h x hx;have fl:x≠n:=λ e=>hm (by rw [← e];exact hx)
    omega)
   omega
section
variable {f:aE} {a b c x y:ax} {d D:Int} {a_:List Int} {aB:ax→Int}
theorem aq4 (hf:f.bm=0) {l:List ax} (hn:l.Nodup) (aq:∀ x∈l,f.fq x=true):l.length≤f.aW.length:=by
 have κ:(l.map f.at_).Nodup:=by
  have:∀ l:List ax,l.Nodup→(∀ x∈l,f.fq x=true)→(l.map f.at_).Nodup:=by
   intro l;induction l with
   | nil=>intro _ _;exact aV5
   | cons x r bx =>
    intro hn aq;rw [aU4] at hn;rw [aSB,aU4];refine ⟨λ hm=> ?_,bx hn.2 λ y aI=>aq y (aSa _ aI)⟩;obtain ⟨y,aI,e⟩:=aSt.1 hm;have:=aE.acK hf (aq y (aSa _ aI)) (aq x aSj) e;subst this;exact hn.1 aI
  exact this l hn aq
 have:=aAw f.aW.length _ κ (λ i hm=>by
  obtain ⟨y,aI,rfl⟩:=aSt.1 hm;exact (aE.zf hf (aq y aI)).1)
 rwa [aSK] at this
abbrev m0 (f:aE) (a:ax):ax→Int→Prop:=qK.o1 f.cS f.gJ (λ s=>s=a)
abbrev sS (f:aE) (a:ax):ax→Int→Prop:=qK.ub f.cS f.gJ (λ s=>s=a)
theorem m0.q8 (r:m0 f a x d):0≤d:=qK.o1.q8 (aE.YO f) r
theorem m0.ground (ha:f.ground a=true) (r:m0 f a x d):f.ground x=true:=by
 induction r with
 | start hs=>rw [hs];exact ha
 | step _ aI _=>exact (aE.M9.1 aI).2
theorem m0.uU (r:m0 f a x d) {e:Int} (q:m0 f x y e):m0 f a y (d+e):=by
 induction q with
 | start hs=>rw [hs,aU1];exact r
 | step _ aI bx=>rw [← Int.add_assoc];exact .step bx aI
theorem sS.pred (h:sS f a x d):(x=a∧d=0)∨∃ p e,sS f a p e∧x∈f.cS p∧d=e+f.gJ x:=by
 obtain ⟨r,hm⟩:=h;cases r with
 | start hs=>exact .inl ⟨hs,rfl⟩
 | @step p _ e hp aI =>
  obtain ⟨e',he⟩:=qK.o1.ahR (aE.YO f) hp;have κ:=he.2 _ hp;have ab:=hm _ (.step he.1 aI);have:e=e':=by omega
  subst this;exact .inr ⟨p,e,he,aI,Z⟩
theorem sS.chain (hf:f.bm=0) (ha:f.ground a=true):∀ (n:Nat) (x:ax) (d:Int),sS f a x d→d.toNat=n→∃ l:List ax,l.Nodup∧(∀ y∈l,f.fq y=true∧∃ e,sS f a y e∧e≤d)∧d+3≤3 * (l.length:Int):=by
 intro n;induction n using Nat.strongRecOn with
 | ind n bx =>
  intro x d h hn;have hx:=aE.ky (m0.ground ha h.1);rcases h.pred with ⟨κ,ab⟩ | ⟨p,e,κ,ab,aw⟩
  ·refine ⟨[x],by simp,λ y aI=> ?_,by rw [ab];simp⟩;rw [aRT.1 aI];exact ⟨hx,d,h,aTk _⟩
  ·have ar:=f.qd (c:=x);have he:=m0.q8 κ.1;obtain ⟨l,eu,kc,F'⟩:=bx e.toNat (by omega) p e κ rfl;refine ⟨x::l,aU4.2 ⟨λ hm=> ?_,eu⟩,λ y aI=> ?_,by rw [aR0];omega⟩
   ·obtain ⟨_,e',a6,bH⟩:=kc x hm;have:=a6.uniq h;omega
   ·rcases aSh.1 aI with rfl | aI
    ·exact ⟨hx,d,h,aTk _⟩
    ·obtain ⟨a6,e',bH,ch⟩:=kc y aI;exact ⟨a6,e',bH,by omega⟩
theorem sS.cI (hf:f.bm=0) (ha:f.ground a=true) (h:sS f a x d):d+3≤3 * (f.aW.length:Int):=by
 obtain ⟨l,eu,kc,F'⟩:=h.chain hf ha _ x d rfl;have:=aq4 hf eu λ y aI=>(kc y aI).1;omega
def cellAt (f:aE) (i:Nat):ax:=⟨(i:Int) % f.wide,(i:Int) / f.wide⟩
theorem aqX (hf:f.bm=0) (hc:f.fq c=true):cellAt f (f.at_ c)=c:=by
 obtain ⟨_,_,a2,a3,a4,a5⟩:=aE.idx hf hc;have h:=(aE.zf hf hc).2;unfold cellAt;rw [h];have aZ:(c.y * f.wide+c.x) % f.wide=c.x:=by rw [aVK,aUG,aVJ a2 a3]
 have bh:(c.y * f.wide+c.x) / f.wide=c.y:=by rw [aVK,Int.add_mul_ediv_right _ _ (by omega),Int.ediv_eq_zero_of_lt a2 a3,Int.zero_add]
 rw [aZ,bh]
theorem auJ (hf:f.bm=0) {g:ax→Int} (aO:∀ c,f.fq c=false→g c= -1):f.aB ((List.range f.aW.length).map λ i=>g (cellAt f i)) c=g c:=by
 cases hc:f.fq c with
 | false=>rw [aE.V0 hc,aO c hc]
 | true =>
  rw [aE.H2 hc,aRU,aSd,aVq (aE.zf hf hc).1];show g (cellAt f (f.at_ c))=g c;rw [aqX hf hc]
theorem akE (hf:f.bm=0) (ha:f.ground a=true) (b:ax):∃ a_,pV f a b a_:=by
 let Q:ax→Int→Prop:=λ c d=>sS f a c d∧∀ D,sS f a b D→d+aE.k4 b c≤D
 let g:ax→Int:=λ c=>@dite _ (∃ d,Q c d) (Classical.propDecidable _) (λ h=>h.choose) λ _=> -1
 have Qw:∀ c d,Q c d→g c=d:=λ c d h=>by
  have hex:∃ d,Q c d:=⟨d,h⟩;show @dite _ (∃ d,Q c d) (Classical.propDecidable _) (λ h=>h.choose) (λ _=> -1)=d;rw [dif_pos hex];exact hex.choose_spec.1.uniq h.1
 have gn:∀ c,(¬ ∃ d,Q c d)→g c= -1:=λ c h=>by
  show @dite _ (∃ d,Q c d) (Classical.propDecidable _) (λ h=>h.choose) (λ _=> -1)= -1;rw [dif_neg h]
 have zy:∀ c,0≤g c→Q c (g c):=λ c h=>by
  by_cases hex:∃ d,Q c d
  ·obtain ⟨d,hd⟩:=hex;rw [Qw c d hd];exact hd
  ·rw [gn c hex] at h;omega
 have go:∀ c,f.fq c=false→g c= -1:=λ c hc=>gn c λ ⟨d,hd⟩=>by
  have:=aE.ky (m0.ground ha hd.1.1);rw [hc] at this;cases this
 have mM:∀ c,f.aB ((List.range f.aW.length).map λ i=>g (cellAt f i)) c=g c:=λ c=>auJ hf go;refine ⟨(List.range f.aW.length).map λ i=>g (cellAt f i),by rw [aSK,aWU],⟨λ c h=> ?_,λ c h=> ?_,λ c d hd hle=> ?_,λ c h=> ?_⟩,λ c=> ?_,λ c h=> ?_⟩
 ·rw [mM c] at h ⊢;by_cases hex:∃ d,Q c d
  ·obtain ⟨d,hd⟩:=hex;rw [Qw c d hd] at h;have:=m0.q8 hd.1.1;omega
  ·exact gn c hex
 ·rw [mM c] at h ⊢;exact zy c h
 ·rw [mM c];exact Qw c d ⟨hd,hle⟩
 ·rw [mM c] at h ⊢;have I:=zy c h;rcases I.1.pred with κ | ⟨p,e,κ,ab,aw⟩
  ·exact .inl κ
  ·right;have he:=aE.VL b (aE.M9.1 ab).1;have ar:=f.qd (c:=c);have hp:g p=e:=Qw p e ⟨κ,λ D vZ=>by have:=I.2 D vZ;omega⟩;exact ⟨p,by rw [mM p,hp];exact m0.q8 κ.1,ab,by rw [mM p,hp];exact aw⟩
 ·rw [mM c];by_cases h:0≤g c
  ·have:=(zy c h).1.cI hf ha;omega
  ·omega
 ·rw [mM c] at h;exact m0.ground ha (zy c h).1.1
theorem VZ (hf:f.bm=0) (ha:f.ground a=true):qK.Spec f.cS f.gJ (aE.k4 b) (λ s=>s=a) b (cL f a b):=by
 obtain ⟨a_,h⟩:=akE hf ha b;rw [← h.Qq];exact h.spec
theorem K' (hf:f.bm=0) (ha:f.ground a=true) (h:0≤cL f a b c):sS f a c (cL f a b c):=((VZ hf ha).o5 c h).1
theorem afr (hf:f.bm=0) (ha:f.ground a=true) (h:sS f a b d):cL f a b b=d:=(VZ hf ha).end_ (aE.VK b) h
theorem auI (hf:f.bm=0) (ha:f.ground a=true) (h:m0 f a b d):0≤cL f a b b∧cL f a b b≤d:=by
 obtain ⟨e,he⟩:=qK.o1.ahR (aE.YO f) h;rw [afr hf ha he];exact ⟨m0.q8 he.1,he.2 _ h⟩
theorem La (hf:f.bm=0) (ha:f.ground a=true) (h:0≤cL f a b b):oY f a (cL f a b):=by
 obtain ⟨a_,hp⟩:=akE hf ha b;exact oY.Gs hp h
theorem aFc (h:oY f a aB):∀ (n:Nat) (c:ax),0≤aB c→(aB c).toNat=n→∀ x∈fS f aB a c,0≤aB x∧aB x≤aB c∧f.ground x=true:=by
 intro n;induction n using Nat.strongRecOn with
 | ind n bx =>
  intro c hc hn x hx;by_cases e:c=a
  ·subst e;rw [Cl h] at hx;rw [aRT.1 hx];exact ⟨hc,aTk _,h.gr _ hc⟩
  ·obtain ⟨eM,ft,nh,yl⟩:=h.prev hc e;have ar:=f.qd (c:=c);rw [Cm h hc e] at hx;rcases aSh.1 hx with rfl | hx
   ·exact ⟨hc,aTk _,h.gr _ hc⟩
   ·obtain ⟨lX,nj,yo⟩:=bx _ (by omega) _ nh rfl x hx;exact ⟨lX,by omega,yo⟩
theorem VQ (he:hq f a b=0):f.bm=0∧f.ground a=true∧f.ground b=true∧0≤cL f a b b∧o_ f a b=cL f a b b∧fU f a b=(fS f (cL f a b) a b).reverse:=by
 rcases VP f a b with ⟨κ,ab⟩ | ⟨κ,ab,aw⟩ | ⟨κ,ab,aw,a6⟩ | ⟨κ,ab,aw,a6 | a6⟩
 ·rw [ab] at he;exact absurd he κ
 ·rw [aw] at he;exact absurd he ab
 ·rw [a6] at he;cases he
 ·rw [a6.2] at he;cases he
 ·refine ⟨κ,ab,aw,a6.1, ?_, ?_⟩
  ·unfold o_;rw [aR8 he]
  ·unfold fU;rw [aR8 he]
end
end
section
def aNu:List aY:= [⟨1,0,1,⟨2,0⟩,10,0⟩]
def aNt:List dm:= [⟨1,⟨2,0⟩⟩]
end
end Go.Proofs.YtmeeljmapailnaaGreat
