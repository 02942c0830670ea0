import Derived.Test.YtlikikpgmmkjbaaGreatGooI
import Derived.Deep.DeepCutAuto
set_option linter.unusedVariables false
set_option linter.unusedSimpArgs false
set_option maxRecDepth 100000
set_option maxHeartbeats 4000000
open Go.RowKit
namespace Go.Proofs.YtlikikpgmmkjbaaGreat
open Tryz
abbrev aSx:=@List.pairwise_iff_getElem
section
theorem anz:eC prog bf.rep 26 66 56:=eC.kT (z:=bf.zero) (k:=7) underlying26 bf.info rfl rfl (by decide) bf.h8
theorem aBu (k:Int):0≤ah.kU k∧ah.kU k≤12:=by unfold ah.kU;split<;>(try split)<;>omega
theorem azf (k:Int):0≤ah.j_ k∧ah.j_ k≤20:=by unfold ah.j_;split<;>(try split)<;>omega
theorem aiE {k:Int}:(H9 k != 0)= !cO k 1 2:=by
 unfold H9;by_cases τ:k=1
 ·subst τ;rfl
 ·by_cases aa:k=2
  ·subst aa;rfl
  ·rw [aRL τ,aRL aa,p4 (by omega)];rfl
theorem awk {W:ah} {d:cn} (bB:Good W) (h:(((((decide (d.aQ<0) || decide ((W.aW.length:Int)≤d.aQ)) || H9 d.what != 0) || decide (W.bk.getD d.aQ.toNat 0<ah.kU d.what)) || decide (100≤(W.ak.length:Int))) || decide (1000000≤W.next))=false):
  0≤d.aQ∧d.aQ<(W.aW.length:Int)∧cO d.what 1 2=true∧ah.kU d.what≤W.bk.getD d.aQ.toNat 0∧W.ak.length<100∧W.next<1000000:=by
 simp only [aSn,aSg,aiE,aS7] at h;obtain ⟨⟨⟨⟨⟨τ,aa⟩,aw⟩,a1⟩,bK⟩,b_⟩:=h;exact ⟨by omega,by omega,aw,by omega,by omega,by omega⟩
theorem age {W:ah} {d:cn} (bB:Good W) (h:(((((decide (d.aQ<0) || decide ((W.aW.length:Int)≤d.aQ)) || H9 d.what != 0) || decide (W.bk.getD d.aQ.toNat 0<ah.kU d.what)) || decide (100≤(W.ak.length:Int))) || decide (1000000≤W.next))=true):W.r5 d=none:=by
 unfold ah.r5;rw [aRL];intro hc;simp only [aRI,aR6] at hc;obtain ⟨⟨⟨⟨c1,c2⟩,c3⟩,c4⟩,c5⟩:=hc;have c1:=kO c1;simp only [aiE,c2,aSp,aR6,aTJ,aSq,aTR] at h;omega
theorem agd {W:ah} {d:cn} (τ:0≤d.aQ) (aa:d.aQ<(W.aW.length:Int)) (aw:cO d.what 1 2=true) (a1:ah.kU d.what≤W.bk.getD d.aQ.toNat 0) (bK:W.ak.length<100) (b_:W.next<1000000):
  (cO d.aQ 0 ((W.aW.length:Int) - 1) && cO d.what 1 2 && decide (ah.kU d.what≤W.bk.getD d.aQ.toNat 0) && decide (W.ak.length<100) && decide (W.next<1000000))=true:=by
 rw [o3 τ (by omega),aw,aSe a1,aSe bK,aSe b_];rfl
theorem agf {W:ah} {d:cn} (τ:0≤d.aQ) (aa:d.aQ<(W.aW.length:Int)) (aw:cO d.what 1 2=true) (a1:ah.kU d.what≤W.bk.getD d.aQ.toNat 0) (bK:W.ak.length<100) (b_:W.next<1000000) (h:(!(W.free (W.aW.getD d.aQ.toNat default)).isSome)=true):W.r5 d=none:=by
 unfold ah.r5;simp only [agd τ aa aw a1 bK b_,aTm];rw [aSE,Option.isSome_eq_false_iff,Option.isNone_iff_eq_none] at h;rw [h]
theorem awj {W:ah} {d:cn} {c:ax} (τ:0≤d.aQ) (aa:d.aQ<(W.aW.length:Int)) (aw:cO d.what 1 2=true) (a1:ah.kU d.what≤W.bk.getD d.aQ.toNat 0) (bK:W.ak.length<100) (b_:W.next<1000000) (hc:(W.free (W.aW.getD d.aQ.toNat default)).getD ⟨0,0⟩=c) (h:(!(W.free (W.aW.getD d.aQ.toNat default)).isSome)=false):
  W.r5 d=some {W with ak:=W.ak++ [⟨W.next,d.aQ,d.what,c,ah.j_ d.what,0⟩],next:=W.next+1,bk:=W.bk.set d.aQ.toNat (W.bk.getD d.aQ.toNat 0 - ah.kU d.what)}:=by
 unfold ah.r5;simp only [agd τ aa aw a1 bK b_,aTm];cases hf:W.free (W.aW.getD d.aQ.toNat default) with
 | none=>rw [hf] at h;cases h
 | some b4=>rw [hf] at hc;obtain rfl:b4=c:=hc;rfl
theorem awi {W:ah} {d:cn} (bB:Good W) (τ:0≤d.aQ) (aa:d.aQ<(W.aW.length:Int)):(0≤(W.aW.getD d.aQ.toNat default).x∧(W.aW.getD d.aQ.toNat default).x≤100∧0≤(W.aW.getD d.aQ.toNat default).y∧(W.aW.getD d.aQ.toNat default).y≤100)∧d.aQ.toNat<W.aW.length:=by
 have bw:d.aQ.toNat<W.aW.length:=by omega
 have:=(bB.aW _ _ (dv (u:=default) bw)).1;obtain ⟨i1,i2,i3,i4,i5,i6⟩:=aE.idx bB.field (aE.j8 this);obtain ⟨DU,NC,SX,SY,_,_⟩:=aE.jM bB.field;exact ⟨⟨by omega,by omega,by omega,by omega⟩,bw⟩
theorem auk {W:ah} {p c:ax} (hp:0≤p.x∧p.x≤100∧0≤p.y∧p.y≤100) (hc:(W.free p).getD ⟨0,0⟩=c): -1≤c.x∧c.x≤101∧ -1≤c.y∧c.y≤101:=by
 cases hf:W.free p with
 | none=>rw [hf] at hc;subst hc;decide
 | some q =>
  rw [hf] at hc;obtain rfl:q=c:=hc;have:=aUr hf;simp only [ah.around,aRW,aS3,aTR] at this;rcases this with rfl | rfl | rfl | rfl | rfl | rfl | rfl | rfl | rfl | rfl<;>(try dsimp only)<;>omega
theorem awg (d:cn) (w:World) (aC S:Nat) (a:ah.b5) (W:ah) (h:lR w aC S a W) (bB:Good W):
  Calls prog 140 #[.pointer (some ⟨S,0,none⟩), .agg #[.int .i64 d.kind, .int .i64 d.aQ, .int .i64 d.spot.x, .int .i64 d.spot.y, .int .i64 d.what]] w (xd W (W.r5 d) w aC S a):=by
 have tj:=bB.sl;have jb:=h.low;have s9:aC≤w.heap.size:=by have:=h.low;have:=h.ft.lt;omega
 have ib:=h.a8;have mX:=h.ft.lt;have bm:=h.ft;have aT:=h.own;have yg:=λ q I=>(aT.lt q I).2;have xp:∀ q∈bq.bX a,q=S→False:=λ q I Φ=>ib (Φ ▸ I);refine ch (n:=126) func140 Z Z Z ?_;refine aj<|cB Z Z Z Z λ lg AD kx Ml dA=> ?_;have:=kx.size;have eB:=(Mod.bF (S::bq.bX a) w).trans (Mod.bC kx);have RJ:=dA.lt;refine va Z<|ai<|aj<|J (av ad0 Z)<|J (ao Z (dA.one bc Z))<|ca U_ Z Z ((XJ d.what _).mono ?_);rintro e vg ⟨rfl,bl⟩;refine ⟨_,Z, ?_⟩;have:=bl.size;have jY:=eB.trans (Mod.bC bl);refine vm Z<|J (ex Z Z)<|J (ex Z Z)<|al Z U' Z Z λ BG Kg kY ayN gj=> ?_;have:=kY.size;have nd:=jY.trans (Mod.bC kY);have akc:=gj.lt;refine st (new:= [.int .i64 (ah.j_ d.what), .int .i64 (IM d.what), .int .i64 (uM d.what), .int .i64 (ah.kU d.what)]) Z Z gj Z Va Z Z Z λ F7 mT gj=> ?_;have:=mT.size;have sF:=nd.md mT (λ q I=> .inr (by have:=aRz.1 I;omega));refine va Z<|ai<|aA<|aA<| ?_;refine rd [(1,0),(5,0),(10,0),(23,0),(25,0),(27,0),(29,0),(37,0),(46,0)] [0,1,2,3,4,5,6,7,8,9,10,11,12,13,14,15,16,17,18,19,20,21,22,23,24,25,26,27,28,29,30,31,32,33,34,35,36,37,38,39,40,41,42,43,44,45,46,47,48] (by kernel_rfl) (by kernel_rfl) ?_;refine au Z (λ _=>av y_ Z)<| ?_;have dA:=dA.later (γ bl kY);have dA:=dA.mod mT aO;refine bH Z (λ _ x=>ao Z ((dA.later x).one bc Z))<|au Z (λ _=>blt Z Z)<|au Z (λ _=>aM Z)<|a6 Z Z Z Z Z Z (λ hc _=>av y_ Z) Z<|cy Z Z Z Z Z Z (λ hc _ x=>ao (gt hc Z) ((dA.later x).one bc Z)) Z<|a6 Z Z Z Z Z Z (λ hc _=>aM Z) Z<|a6 Z Z Z Z Z Z (λ hc _=>b3 (gt hc Z)) Z<|a6 Z Z Z Z Z Z (λ hc _=>av nv (gt hc Z)) Z<|a6 Z Z Z Z Z Z (λ hc _=>av uH (gt hc Z)) Z<| ?_;have bm:=bm.later (γ kx (γ bl kY));have bm:=bm.mod mT aO;refine cy Z Z Z Z Z Z (λ hc _ x=>ao (gt hc Z) ((bm.later x).one zd Z)) Z<|a6 Z Z Z Z Z Z (λ hc _=>cA underlying25 (gt hc Z)) Z<|a6 Z Z Z Z Z Z (λ hc _=>j4 (gt hc Z) (gt hc Z)) Z<|au Z (λ _=>fv Z Z Z Z)<|au Z (λ _=>aM Z)<|a6 Z Z Z Z Z Z (λ hc _=>aM Z) Z<|a6 Z Z Z Z Z Z (λ hc _=>bne (gt hc Z) Z) Z<|au Z (λ _=>fv Z Z Z Z)<|au Z (λ _=>aM Z)<|a6 Z Z Z Z Z Z (λ hc _=>aM Z) Z<|a6 Z Z Z Z Z Z (λ hc _=>b3 (gt hc Z)) Z<|a6 Z Z Z Z Z Z (λ hc _=>av nv (gt hc Z)) Z<|a6 Z Z Z Z Z Z (λ hc _=>av xx (gt hc Z)) Z<|cy Z Z Z Z Z Z (λ hc _ x=>ao (gt hc Z) ((bm.later x).one gL Z)) Z<|a6 Z Z Z Z Z Z (λ hc _=>av y_ Z) Z<|cy Z Z Z Z Z Z (λ hc _ x=>ao (gt hc Z) ((dA.later x).one bc Z)) Z<| ?_;have aT:=aT.later (γ kx (γ bl kY));have aT:=aT.mod mT (bL yg);refine a6 Z Z Z Z Z Z (λ hc _=>b' d.aQ.toNat underlying22 dK (gt hc Z) (gt hc Z) (aT.S.has.bR (ba d.aQ.toNat (by (try simp only [cC] at hc);omega))) (by (try simp only [cC] at hc);omega) (by (try simp only [cC] at hc);omega)) Z<|cy Z Z Z Z Z Z (λ hc _ x=>ao (gt hc Z) (κ.aJ.gi gN (by rw [← (aT.later x).S.has.bR (ba d.aQ.toNat (by (try simp only [cC] at hc);omega))];exact (aT.later x).S.has) (dv (l:=W.bk) (u:=0) (by (try simp only [cC] at hc);omega)) Z bc)) Z<|a6 Z Z Z Z Z Z (λ hc _=>av ad1 Z) Z<|cy Z Z Z Z Z Z (λ hc _ x=>ao (gt hc Z) ((gj.later x).one bc Z)) Z<|a6 Z Z Z Z Z Z (λ hc _=>blt (gt hc Z) (gt hc Z)) Z<|au Z (λ _=>fv Z Z Z Z)<|au Z (λ _=>aM Z)<|a6 Z Z Z Z Z Z (λ hc _=>aM Z) Z<|a6 Z Z Z Z Z Z (λ hc _=>b3 (gt hc Z)) Z<|a6 Z Z Z Z Z Z (λ hc _=>av nv (gt hc Z)) Z<|a6 Z Z Z Z Z Z (λ hc _=>av kI (gt hc Z)) Z<|cy Z Z Z Z Z Z (λ hc _ x=>ao (gt hc Z) ((bm.later x).one mM Z)) Z<|a6 Z Z Z Z Z Z (λ hc _=>cA underlying26 (gt hc Z)) Z<|a6 Z Z Z Z Z Z (λ hc _=>j4 (gt hc Z) Z) Z<|au Z (λ _=>fv Z Z Z Z)<|au Z (λ _=>aM Z)<|a6 Z Z Z Z Z Z (λ hc _=>aM Z) Z<|a6 Z Z Z Z Z Z (λ hc _=>b3 (gt hc Z)) Z<|a6 Z Z Z Z Z Z (λ hc _=>av nv (gt hc Z)) Z<|a6 Z Z Z Z Z Z (λ hc _=>av Ky (gt hc Z)) Z<|cy Z Z Z Z Z Z (λ hc _ x=>ao (gt hc Z) ((bm.later x).one bc Z)) Z<|a6 Z Z Z Z Z Z (λ hc _=>j4 (gt hc Z) Z) Z<|au Z (λ _=>fv Z Z Z Z)<|fn λ yk dW=> ?_;have:=dW.size;have ke:=sF.trans (Mod.bC dW);refine aV<| ?_;refine dJ Z (λ rU=> ?_) (λ rU=> ?_)
 ·refine aj<|va Z<|ai<|rt<|bT<|bb (.tmp Z .nil)<| ?_;have bm:=bm.later dW;have aT:=aT.later dW;exact ⟨a,by rw [age bB rU];rfl,by rw [age bB rU];exact ⟨bm,aT,ib,jb⟩,λ q I=> .inl I,ke⟩
 ·obtain ⟨τ,aa,aw,a1,bK,b_⟩:=awk bB rU;obtain ⟨pZ,bw⟩:=awi bB τ aa;have hP:=bB.bk _ _ (dv (u:=0) (l:=W.bk) (j:=d.aQ.toNat) (by omega));obtain ⟨c,hc⟩:∃ c,(W.free (W.aW.getD d.aQ.toNat default)).getD ⟨0,0⟩=c:=⟨_,rfl⟩;have aKW:=aBu d.what;have aLc:=kO aw;have we:=bB.next;have hlen:=bB.dZ;have HM:=bB.kq;have aJ1:=auk pZ hc;refine bt<|aA<| ?_;refine rd [(5,0),(7,0),(9,0),(10,0),(14,2),(15,3)] [0,1,2,3,4,5,6,7,8,9,10,11,12,13,14,15,16] (by kernel_rfl) (by kernel_rfl) ?_;refine au Z (λ _=>aM Z)<|au Z (λ _=>aM Z)<|au Z (λ _=>b3 Z)<|au Z (λ _=>av nv Z)<|au Z (λ _=>av uH Z)<| ?_;have bm:=bm.later dW;refine bH Z (λ _ x=>ao Z ((bm.later x).one zd Z))<|au Z (λ _=>av y_ Z)<| ?_;have dA:=dA.later dW;refine bH Z (λ _ x=>ao Z ((dA.later x).one bc Z))<| ?_;have aT:=aT.later dW;refine au Z (λ _=>b' d.aQ.toNat underlying25 bU Z Z (aT.B.has.bR (ba d.aQ.toNat)) (by omega) (by omega))<|bH Z (λ _ x=>ao Z (κ.aJ.ho A7 (by rw [← (aT.later x).B.has.bR (ba d.aQ.toNat)];exact (aT.later x).B.has) (dv (l:=W.aW) (u:=default) (by omega)) cj bU))<|pR Z Z asb Z (λ _ x=>auj (W.aW.getD d.aQ.toNat default) _ aC S a W (⟨(bm.later x),(aT.later x),ib,jb⟩) bB pZ) Z<|au Z (λ _=>aM Z)<|au Z (λ _=>ex Z Z)<|au Z (λ _=>ex Z Z)<|gm Z Z Z λ Sy sC Q hK=>al Z xv Z Z λ tM G5 fQ aiQ jk=>hK _ _ ⟨γ sC fQ, ?_⟩;have:=sC.size;have z1:=ke.trans (Mod.bC sC);have:=fQ.size;have hX:=z1.trans (Mod.bC fQ);have aBY:=jk.lt;refine eP Z Z Z λ BL gW Q hK=>st Z Z (jk.later gW) Z bU Z Z Z λ wN k_ jk=>hK _ _ ?_;have:=gW.size;have k2:=hX.trans (Mod.bC gW);have:=k_.size;have mb:=k2.md k_ (λ q I=> .inr (by have:=aRz.1 I;omega));refine au Z (λ _=>fg Z)<|fn λ Nl rh=> ?_;have:=rh.size;have pj:=mb.trans (Mod.bC rh);refine aV<|aA<|aj<|vm Z<|J (dZ Z)<|ai<| ?_;refine dJ Z (λ CT=> ?_) (λ CT=> ?_)
  ·refine aj<|va Z<|ai<|rt<|bT<|bb (.tmp Z .nil)<| ?_;have bm:=bm.later (γ sC (γ fQ gW));have bm:=bm.mod k_ aO;have bm:=bm.later rh;have aT:=aT.later (γ sC (γ fQ gW));have aT:=aT.mod k_ (bL yg);have aT:=aT.later rh;exact ⟨a,by rw [agf τ aa aw a1 bK b_ CT];rfl,by rw [agf τ aa aw a1 bK b_ CT];exact ⟨bm,aT,ib,jb⟩,λ q I=> .inl I,pj⟩
  ·refine bt<|aA<| ?_;refine rd [(5,0),(10,0),(12,0),(14,0),(15,0),(17,0),(19,2),(20,3),(24,3)] [0,1,2,3,4,5,6,7,8,9,10,11,12,13,14,15,16,17,18,19,20,21,22,23,24] (by kernel_rfl) (by kernel_rfl) ?_;refine au Z (λ _=>aM Z)<|au Z (λ _=>aM Z)<|au Z (λ _=>b3 Z)<|au Z (λ _=>av nv Z)<|au Z (λ _=>av kI Z)<| ?_;have bm:=bm.later (γ sC (γ fQ gW));have bm:=bm.mod k_ aO;have bm:=bm.later rh;refine bH Z (λ _ x=>ao Z ((bm.later x).one mM Z))<|au Z (λ _=>aM Z)<|au Z (λ _=>b3 Z)<|au Z (λ _=>av nv Z)<|au Z (λ _=>av Ky Z)<|bH Z (λ _ x=>ao Z ((bm.later x).one bc Z))<|au Z (λ _=>av y_ Z)<| ?_;have dA:=dA.later (γ sC (γ fQ gW));have dA:=dA.mod k_ aO;have dA:=dA.later rh;refine bH Z (λ _ x=>ao Z ((dA.later x).one bc Z))<|au Z (λ _=>av ad0 Z)<|bH Z (λ _ x=>ao Z ((dA.later x).one bc Z))<| ?_;have jk:=jk.later rh;refine bH Z (λ _ x=>ao Z ((jk.later x).all cj bU))<|au Z (λ _=>av asc Z)<| ?_;have gj:=gj.later (γ dW (γ sC (γ fQ gW)));have gj:=gj.mod k_ aO;have gj:=gj.later rh;refine bH Z (λ _ x=>ao Z ((gj.later x).one bc Z))<|rS (v:= .agg #[.int .i64 W.next, .int .i64 d.aQ, .int .i64 d.what, .int .i64 ((((W.free (W.aW.getD d.aQ.toNat default)).getD ⟨0,0⟩)).x), .int .i64 ((((W.free (W.aW.getD d.aQ.toNat default)).getD ⟨0,0⟩)).y), .int .i64 (ah.j_ d.what), .int .i64 0]) Z Z (λ _=>cK Z (by kernel_rfl)) Z<|gm Z Z Z λ Nn ji Q hK=>cX (e:= 66) (cs:= [.int .i64 W.next, .int .i64 d.aQ, .int .i64 d.what, .int .i64 ((((W.free (W.aW.getD d.aQ.toNat default)).getD ⟨0,0⟩)).x), .int .i64 ((((W.free (W.aW.getD d.aQ.toNat default)).getD ⟨0,0⟩)).y), .int .i64 (ah.j_ d.what), .int .i64 0]) Z (λ _=>by kernel_rfl) Z λ BN vJ iD XO wZ=>hK _ _ ⟨γ ji iD, ?_⟩;have:=ji.size;have qw:=pj.trans (Mod.bC ji);have:=iD.size;have lN:=qw.trans (Mod.bC iD);have YG:=wZ.lt;have aT:=aT.later (γ sC (γ fQ gW));have aT:=aT.mod k_ (bL yg);have aT:=aT.later (γ rh (γ ji iD));refine eP Z Z Z λ ZB hU Q hK=>ap anz κ.di (aT.later hU).T ((aR.gB (R:=bf.rep) (by_:=56) (q:=(⟨W.next,d.aQ,d.what,c,ah.j_ d.what,0⟩:bf)) wZ ⟨(by rw [← hc];rfl),bI.2 (by dsimp only;omega),bI.2 (by dsimp only;omega),bI.2 (by dsimp only;omega),bI.2 (by dsimp only;omega),bI.2 (by dsimp only;omega),bI.2 (by dsimp only;have:=azf d.what;omega),bI.2 (by dsimp only;omega)⟩ (by decide)).keep hU) Z Z (by simp;omega) (by simp;omega) (by have:=hU.size;omega) Z λ Nr GF qK kR yX ET aAc=>hK _ _ ?_;have:=hU.size;have Gp:=lN.trans (Mod.bC hU);have aT:=aT.later hU;have bm:=bm.later (γ ji (γ iD hU));have:=kR.size;have yA:=Gp.md kR (λ q I=> .inl (aRQ _ (rR I)));have nY:=aT.swapT kR yX ET;have Po:∀ q∈bq.bX {a with T:=GF,t:=qK},q=S→False:=λ q I Φ=>(aeR (aC:=aC) (w:=w) (W:=W) I).elim (λ h=>xp q h Φ) (λ h=>(ET q h).elim (λ aa=>xp q (rR aa) Φ) (λ aa=>by omega));have aq3:∀ q∈κ.ae a.T,q=S→False:=λ q I Φ=>by (exact xp q (rR I) Φ)
   have bm:=bm.mod kR (λ I=>aq3 _ I rfl);have sx:=λ q I=>(nY.lt q I).2;refine au Z (λ _=>b3 Z)<|au Z (λ _=>av nv Z)<|au Z (λ _=>av kI Z)<|eP Z Z Z λ SB tS Q hK=>st (new:= [.int .i64 W.field.wide, .int .i64 W.field.high, .slice a.P W.field.aZ.length a.p, .slice a.B W.aW.length a.b, .slice a.S W.bk.length a.s, .slice a.M W.br.length a.m, .slice GF ((W.ak++ [(⟨W.next,d.aQ,d.what,c,ah.j_ d.what,0⟩:bf)]).length) qK, .int .i64 W.next, .int .i64 W.now]) Z Z (bm.later tS) Z KH Z Z Z λ Ga x2 bm=>hK _ _ ?_;have:=tS.size;have yC:=yA.trans (Mod.bC tS);have:=x2.size;have vx:=yC.md x2 (λ q I=> .inl (by rw [aRz.1 I];exact aRZ));refine fn λ DG hV=> ?_;have:=hV.size;have qz:=vx.trans (Mod.bC hV);refine aV<|aj<|vm Z<|J (b3 Z)<|J (av nv Z)<|J (av Ky Z)<| ?_;have bm:=bm.later hV;refine J (ao Z (bm.one bc Z))<|J (bad Z Z (bE (by omega)))<|J (b3 Z)<|J (av nv Z)<|J (av Ky Z)<|st (new:= [.int .i64 W.field.wide, .int .i64 W.field.high, .slice a.P W.field.aZ.length a.p, .slice a.B W.aW.length a.b, .slice a.S W.bk.length a.s, .slice a.M W.br.length a.m, .slice GF ((W.ak++ [(⟨W.next,d.aQ,d.what,c,ah.j_ d.what,0⟩:bf)]).length) qK, .int .i64 (W.next+1), .int .i64 W.now]) Z Z bm Z dK Z Z Z λ Je ig bm=> ?_;have:=ig.size;have pk:=qz.md ig (λ q I=> .inl (by rw [aRz.1 I];exact aRZ));refine ai<|aA<| ?_;refine rd [(4,0),(6,0),(8,0),(10,0),(13,3)] [0,1,2,3,4,5,6,7,8,9,10,11,12,13] (by kernel_rfl) (by kernel_rfl) ?_;refine au Z (λ _=>aM Z)<|au Z (λ _=>b3 Z)<|au Z (λ _=>av nv Z)<|au Z (λ _=>av xx Z)<|bH Z (λ _ x=>ao Z ((bm.later x).one gL Z))<|au Z (λ _=>av y_ Z)<| ?_;have dA:=dA.later (γ ji (γ iD hU));have UK:∀ q∈κ.ae a.T,q=AD→False:=λ q I Φ=>by (have:=yg q (rR I);omega)
   have dA:=dA.mod kR (λ I=>UK _ I rfl);have dA:=dA.later tS;have dA:=dA.mod x2 aO;have dA:=dA.later hV;have dA:=dA.mod ig aO;refine bH Z (λ _ x=>ao Z ((dA.later x).one bc Z))<| ?_;have nY:=nY.later tS;have nY:=nY.mod x2 (λ q I h=>by have Φ:=aRz.1 h;exfalso;(exact Po q I Φ));have nY:=nY.later hV;have nY:=nY.mod ig (λ q I h=>by have Φ:=aRz.1 h;exfalso;(exact Po q I Φ));refine au Z (λ _=>b' d.aQ.toNat underlying22 dK Z Z (nY.S.has.bR (ba d.aQ.toNat (by show d.aQ.toNat<W.bk.length;omega))) (by omega) (by show d.aQ.toNat<W.bk.length;omega))<|bH Z (λ _ x=>ao Z (κ.aJ.gi gN (by rw [← (nY.later x).S.has.bR (ba d.aQ.toNat (by show d.aQ.toNat<W.bk.length;omega))];exact (nY.later x).S.has) (dv (l:=W.bk) (u:=0) (by show d.aQ.toNat<W.bk.length;omega)) Z bc))<|au Z (λ _=>av ad1 Z)<| ?_;have gj:=gj.later (γ ji (γ iD hU));have aq7:∀ q∈κ.ae a.T,q=Kg→False:=λ q I Φ=>by (have:=yg q (rR I);omega)
   have gj:=gj.mod kR (λ I=>aq7 _ I rfl);have gj:=gj.later tS;have gj:=gj.mod x2 aO;have gj:=gj.later hV;have gj:=gj.mod ig aO;refine bH Z (λ _ x=>ao Z ((gj.later x).one bc Z))<|au Z (λ _=>mm Z Z (bE (by omega)))<|au Z (λ _=>b' d.aQ.toNat underlying22 dK Z Z (nY.S.has.bR (ba d.aQ.toNat (by show d.aQ.toNat<W.bk.length;omega))) (by omega) (by show d.aQ.toNat<W.bk.length;omega))<|eP Z Z Z λ aEY yt Q hK=>so (q':=W.bk.getD d.aQ.toNat 0 - ah.kU d.what) (j:=0) (i:=d.aQ.toNat) (nY.later yt).S κ.di (dv (u:=0) (l:=W.bk) (by omega)) Z Z Z Z (λ _ cs h=>by obtain rfl:=gN h;exact ⟨rfl,bI.2 (by omega)⟩) Z Z dK λ SF kp aok=>hK _ _ ?_;have:=yt.size;have Z4:=pk.trans (Mod.bC yt);have nY:=nY.later yt;have bm:=bm.later yt;have:=kp.size;have B1:=Z4.md kp (λ q I=> .inl (aRQ _ (EN (a:=a) I)));have D9:=nY.akR kp aok;have aq8:∀ q∈κ.ae a.S,q=S→False:=λ q I Φ=>by (exact Po q (EN I) Φ)
   have bm:=bm.mod kp (λ I=>aq8 _ I rfl);have alK:=λ q I=>(D9.lt q I).2;refine fn λ Nx kb=> ?_;have:=kb.size;have rq:=B1.trans (Mod.bC kb);refine aV<|aj<|va Z<|ai<|rt<|bb (.tmp Z .nil)<| ?_;have bm:=bm.later kb;have D9:=D9.later kb;rw [awj τ aa aw a1 bK b_ hc CT];exact ⟨{a with T:=GF,t:=qK},Z,⟨by simpa [ah.cells] using bm,D9.akQ rfl rfl rfl rfl rfl ⟨D9.nums.1,D9.nums.2.1,bI.2 (by show -9223372036854775808≤W.next+1∧W.next+1≤9223372036854775807;omega),D9.nums.2.2.2⟩,λ I=>Po _ I rfl,jb⟩,λ q I=>(aeR (aC:=aC) (w:=w) (W:=W) I).elim .inl (λ h=>(ET q h).elim (λ h=> .inl (rR h)) (λ h=> .inr (by omega))),rq⟩
end
section
theorem aAX (a:ah.b5) (W:ah) (w:World) (bV:ah.Has w a W):
    Calls prog 99 #[.agg (ah.cells a W).toArray] w λ e w'=>∃ a':ah.b5,e= .returned (.agg (ah.cells a' W).toArray)∧bq w' w.heap.size a' W∧Below w.heap.size w w':=by
  obtain ⟨eZ,gd,gg,fy,e6,fl,fN,gp,fU,fF⟩:=a;show Calls _ _ #[.agg #[.int .i64 W.field.wide, .int .i64 W.field.high, .slice eZ W.field.aZ.length fl, .slice gd W.aW.length fN, .slice gg W.bk.length gp, .slice fy W.br.length fU, .slice e6 W.ak.length fF, .int .i64 W.next, .int .i64 W.now]] _ _;have cF:=lx w (.cells #[.int .i64 W.field.wide, .int .i64 W.field.high, .slice eZ W.field.aZ.length fl, .slice gd W.aW.length fN, .slice gg W.bk.length gp, .slice fy W.br.length fU, .slice e6 W.ak.length fF, .int .i64 W.next, .int .i64 W.now] 28);have hA:=aR.new w [.int .i64 W.field.wide, .int .i64 W.field.high, .slice eZ W.field.aZ.length fl, .slice gd W.aW.length fN, .slice gg W.bk.length gp, .slice fy W.br.length fU, .slice e6 W.ak.length fF, .int .i64 W.next, .int .i64 W.now] 28 (0,0);obtain ⟨w0,jo⟩:∃ w0,Hid (w.alloc (.cells #[.int .i64 W.field.wide, .int .i64 W.field.high, .slice eZ W.field.aZ.length fl, .slice gd W.aW.length fN, .slice gg W.bk.length gp, .slice fy W.br.length fU, .slice e6 W.ak.length fF, .int .i64 W.next, .int .i64 W.now] 28)=w0):=⟨_,aRF rfl⟩;rw [jo.out] at cF;have jl:Hid (aR w0 w.heap.size [.int .i64 W.field.wide, .int .i64 W.field.high, .slice eZ W.field.aZ.length fl, .slice gd W.aW.length fN, .slice gg W.bk.length gp, .slice fy W.br.length fU, .slice e6 W.ak.length fF, .int .i64 W.next, .int .i64 W.now] 28 (0,0)):=by rw [← jo.out];exact hA
  have Xn:w0.heap.size=w.heap.size+1:=by rw [← jo.out];simp
  have Ww:=lx w0 (.cells #[.int .i64 0, .int .i64 0, .slice none 0 0, .slice none 0 0, .slice none 0 0, .slice none 0 0, .slice none 0 0, .int .i64 0, .int .i64 0] 28);have hR:=aR.new w0 [.int .i64 0, .int .i64 0, .slice none 0 0, .slice none 0 0, .slice none 0 0, .slice none 0 0, .slice none 0 0, .int .i64 0, .int .i64 0] 28 (0,0);rw [Xn] at hR;obtain ⟨BQ,TD⟩:∃ BQ,Hid (w0.alloc (.cells #[.int .i64 0, .int .i64 0, .slice none 0 0, .slice none 0 0, .slice none 0 0, .slice none 0 0, .slice none 0 0, .int .i64 0, .int .i64 0] 28)=BQ):=⟨_,aRF rfl⟩;rw [TD.out] at Ww;have ct:Hid (aR BQ (w.heap.size+1) [.int .i64 0, .int .i64 0, .slice none 0 0, .slice none 0 0, .slice none 0 0, .slice none 0 0, .slice none 0 0, .int .i64 0, .int .i64 0] 28 (0,0)):=by rw [← TD.out];exact hR
  have jl:=aRF (jl.out.later Ww);have cF:=cF.trans (Ww.mono cF.size);have afB:=bV.keep cF;have Ao:=aRF (λ V (h:Below BQ.heap.size BQ V)=>vO eZ fl W.field.aZ V (afB.P.keep h));have aN:=aRF (λ V (h:Below w.heap.size w V)=>Pj gd fN W.aW V (bV.B.keep h));have fp:=aRF (λ V (h:Below w.heap.size w V)=>vO gg gp W.bk V (bV.S.keep h));have k4:=aRF (λ V (h:Below w.heap.size w V)=>vO fy fU W.br V (bV.M.keep h));have rA:=aRF (λ V (h:Below w.heap.size w V)=>Pk e6 fF W.ak V (bV.T.keep h));have fe:=aRF bV.nums;clear bV afB hA;go_enter func99,ntmps99;go_wp2_with fail
  rw [jo.out,TD.out];go_wp2_with fail
  refine (Ao.out _ (aR8 _ _)).mono ?_;rintro e aP ⟨e3,oj,rfl,QQ,_,cT⟩;have kl:=jl.out.later cT;have aKy:=kl.lt;obtain ⟨b1,c1,c2,c3,c4,c5,dD,dT,eo⟩:=DI kl;have f2:=kl.free 2 (.inr (aSo _));have bx:Below w.heap.size w (aP.setCell ⟨w.heap.size,2,none⟩ (.slice e3 W.field.aZ.length oj)):=(cF.trans (cT.mono cF.size)).setCell (p:=⟨w.heap.size,2,none⟩) (aRN _) _;have V7:=(ct.out.later cT).other (show w.heap.size+1≠w.heap.size by omega) 2 (.slice e3 W.field.aZ.length oj);have P_:=kl.set 2 (.slice e3 W.field.aZ.length oj);have W9:w.heap.size∉κ.ae e3:=Iw QQ (by have:=jl.out.lt;omega);have agT:w.heap.size+1∉κ.ae e3:=Iw QQ (by have:=ct.out.lt;omega);have K1:=QQ.other (p:=⟨w.heap.size,2,none⟩) W9 (.slice e3 W.field.aZ.length oj);obtain ⟨cH,aa7⟩:∃ cH,Hid (aP.setCell ⟨w.heap.size,2,none⟩ (.slice e3 W.field.aZ.length oj)=cH):=⟨_,aRF rfl⟩;rw [aa7.out] at bx P_ K1 V7;have K1:=K1.down (show w.heap.size≤_ from cF.size);go_wp2_with fail
  rw [aa7.out];go_wp2_with fail
  clear b1 c1 c2 c3 c4 c5 dD dT eo f2 QQ kl cT;obtain ⟨b1,c1,c2,c3,c4,c5,dD,dT,eo⟩:=DI P_;have w4:=aRF P_;have aa3:=aRF K1;have OI:Hid (w.heap.size∉κ.ae e3):=aRF W9;have aor:Hid (w.heap.size+1∉κ.ae e3):=aRF agT;have aa5:=aRF V7;have aK5:=aa5.out.lt;clear P_ K1 V7 W9 agT;have CV:=aR8 cH.heap.size cH;have aK6:=w4.out.lt
  go_cut [9] (λ _ l7=>aba w l7 e3 oj W fy fU e6 fF cH.heap.size)
  case first =>
   go_region_law (first
    | (refine R5 rfl 101 _ func101 (by kernel_rfl) (by kernel_rfl) _ _ rfl #[.slice gd W.aW.length fN] (by simp [Act.eval,Act.put]) ?_
       refine (aN.out _ bx.drew).mono ?_;rintro e w3 ⟨e7,mJ,rfl,LK,_,dL⟩;have qU:Below cH.heap.size cH w3:=acm CV dL;have c4:=cell_later qU c4;refine ⟨_,Z, ?_⟩)
    | (refine R5 rfl 27 _ func27 (by kernel_rfl) (by kernel_rfl) _ _ rfl #[.slice gg W.bk.length gp] (by simp [Act.eval,Act.put]) ?_
       refine (fp.out _ (bx.trans (qU.mono bx.size))).mono ?_;rintro e tJ ⟨eF,mZ,rfl,LL,_,dx⟩;have rX:Below cH.heap.size cH tJ:=n6 qU dx;obtain ⟨d0,d1,d2,d3,d4,d5,d6,d7,d8⟩:=DI (w4.out.later rX);have f3:=(w4.out.later rX).free 3 (.inr (aSo _));have f4:=(w4.out.later rX).free 4 (.inr (aSo _));refine ⟨_,Z, ?_⟩))
   all_goals
    have aJX:w.heap.size<tJ.heap.size:=by have:=rX.size;omega
    have afu:=aa5.out.later rX;have afc:=w4.out.later rX;have afs:=aa3.out.later rX;have aff:=LK.later dx;have afJ:=bx.trans (rX.mono bx.size);have HB:=(afc.set 3 (.slice e7 W.aW.length mJ)).set 4 (.slice eF W.bk.length mZ);have HE:=(afu.other (show w.heap.size+1≠w.heap.size by omega) 3 (.slice e7 W.aW.length mJ)).other (show w.heap.size+1≠w.heap.size by omega) 4 (.slice eF W.bk.length mZ);have HD:=(afs.other (p:=⟨w.heap.size,3,none⟩) OI.out (.slice e7 W.aW.length mJ)).other (p:=⟨w.heap.size,4,none⟩) OI.out (.slice eF W.bk.length mZ);have A1:=(aff.other (p:=⟨w.heap.size,3,none⟩) (Iw LK (by show w.heap.size<cH.heap.size;omega)) (.slice e7 W.aW.length mJ)).other (p:=⟨w.heap.size,4,none⟩) (Iw LK (by show w.heap.size<cH.heap.size;omega)) (.slice eF W.bk.length mZ);have HF:=(LL.other (p:=⟨w.heap.size,3,none⟩) (Iw LL (by have:=qU.size;show w.heap.size<w3.heap.size;omega)) (.slice e7 W.aW.length mJ)).other (p:=⟨w.heap.size,4,none⟩) (Iw LL (by have:=qU.size;show w.heap.size<w3.heap.size;omega)) (.slice eF W.bk.length mZ);have oa:Below w.heap.size w ((tJ.setCell ⟨w.heap.size,3,none⟩ (.slice e7 W.aW.length mJ)).setCell ⟨w.heap.size,4,none⟩ (.slice eF W.bk.length mZ)):=(afJ.setCell (p:=⟨w.heap.size,3,none⟩) (aRN _) _).setCell (p:=⟨w.heap.size,4,none⟩) (aRN _) _;have bW:Hid (aba w ((tJ.setCell ⟨w.heap.size,3,none⟩ (.slice e7 W.aW.length mJ)).setCell ⟨w.heap.size,4,none⟩ (.slice eF W.bk.length mZ)) e3 oj W fy fU e6 fF cH.heap.size):=aRF ⟨e7,mJ,eF,mZ,w3.heap.size,tJ.heap.size,HB,HE,HD,A1,HF,LK.lt,LL.lt,oa,qU.size,dx.size,by simp [World.setCell]⟩;clear HB HE HD A1 HF oa LK LL afu afc afs aff afJ qU rX dL dx b1 c1 c2 c3 c4 c5 dD dT eo d0 d1 d2 d3 d4 d5 d6 d7 d8 f3 f4 CV;go_wp2_with fail
    go_meet
    exact bW.out
  case rest =>
    obtain ⟨e7,mJ,eF,mZ,qa,sr,HB,HE,HD,A1,HF,akl,akm,oa,o_,l3,nM⟩:=hcut;obtain ⟨ra,an0⟩:∃ ra:World,Hid (ra=wc):=⟨wc,aRF rfl⟩;rw [← an0.out] at HB HE HD A1 HF oa nM ⊢;have aox:=aRF aa3.out.lt;have OJ:=aRF akl;have OK:=aRF akm;have anU:=aRF HD;have anE:=aRF A1;have anY:=aRF HF;have anV:=aRF HE;have Ah:=aRF HB;clear HB HE HD A1 HF akl akm b1 c1 c2 c3 c4 c5 dD dT eo CV;obtain ⟨b1,c1,c2,c3,c4,c5,dD,dT,eo⟩:=DI Ah.out;have CV:=aR8 ra.heap.size ra;go_wp2_with fail
    go_region_law (first
      | (refine R5 rfl 27 _ func27 (by kernel_rfl) (by kernel_rfl) _ _ rfl #[.slice fy W.br.length fU] (by simp [Act.eval,Act.put]) ?_
         refine (k4.out _ oa.drew).mono ?_;rintro e St ⟨nG,o5,rfl,H4,_,HI⟩;have Ld:Below ra.heap.size ra St:=acm CV HI;have dD:=cell_later Ld dD;refine ⟨_,Z, ?_⟩)
      | (refine R5 rfl 26 _ func26 (by kernel_rfl) (by kernel_rfl) _ _ rfl #[.slice e6 W.ak.length fF] (by simp [Act.eval,Act.put]) ?_
         refine (rA.out _ (oa.trans (Ld.mono oa.size))).mono ?_;rintro e Zw ⟨nQ,pb,rfl,H5,_,E4⟩;have xF:Below ra.heap.size ra Zw:=n6 Ld E4;obtain ⟨d0,d1,d2,d3,d4,d5,d6,d7,d8⟩:=DI (Ah.out.later xF);have f5:=(Ah.out.later xF).free 5 (.inr (aSo _));have f6:=(Ah.out.later xF).free 6 (.inr (aSo _));refine ⟨_,Z, ?_⟩))
    all_goals
      have aLj:=xF.size;have axV:=Ld.size;have avK:=oa.trans (xF.mono oa.size);have c_:w.heap.size<St.heap.size:=by omega
      have fw:w.heap.size<ra.heap.size:=by omega
      have VV:=((Ah.out.later xF).set 5 (.slice nG W.br.length o5)).set 6 (.slice nQ W.ak.length pb);have V8:=((anV.out.later xF).other (show w.heap.size+1≠w.heap.size by omega) 5 (.slice nG W.br.length o5)).other (show w.heap.size+1≠w.heap.size by omega) 6 (.slice nQ W.ak.length pb);have V6:=((anU.out.later xF).other (p:=⟨w.heap.size,5,none⟩) OI.out (.slice nG W.br.length o5)).other (p:=⟨w.heap.size,6,none⟩) OI.out (.slice nQ W.ak.length pb);have VX:=((anE.out.later xF).other (p:=⟨w.heap.size,5,none⟩) (λ h=>by have:=(OJ.out _ h).1;simp at this;omega) (.slice nG W.br.length o5)).other (p:=⟨w.heap.size,6,none⟩) (λ h=>by have:=(OJ.out _ h).1;simp at this;omega) (.slice nQ W.ak.length pb);have K2:=((anY.out.later xF).other (p:=⟨w.heap.size,5,none⟩) (λ h=>by have:=(OK.out _ h).1;simp at this;omega) (.slice nG W.br.length o5)).other (p:=⟨w.heap.size,6,none⟩) (λ h=>by have:=(OK.out _ h).1;simp at this;omega) (.slice nQ W.ak.length pb);have V3:=((H4.later E4).other (p:=⟨w.heap.size,5,none⟩) (λ h=>by have:=(H4.lt _ h).1;simp at this;omega) (.slice nG W.br.length o5)).other (p:=⟨w.heap.size,6,none⟩) (λ h=>by have:=(H4.lt _ h).1;simp at this;omega) (.slice nQ W.ak.length pb);have V_:=(H5.other (p:=⟨w.heap.size,5,none⟩) (λ h=>by have:=(H5.lt _ h).1;simp at this;omega) (.slice nG W.br.length o5)).other (p:=⟨w.heap.size,6,none⟩) (λ h=>by have:=(H5.lt _ h).1;simp at this;omega) (.slice nQ W.ak.length pb);have HJ:Below w.heap.size w ((Zw.setCell ⟨w.heap.size,5,none⟩ (.slice nG W.br.length o5)).setCell ⟨w.heap.size,6,none⟩ (.slice nQ W.ak.length pb)):=(avK.setCell (p:=⟨w.heap.size,5,none⟩) (aRN _) _).setCell (p:=⟨w.heap.size,6,none⟩) (aRN _) _;have jD:(κ.ae e3++κ.ae e7++κ.ae eF++κ.ae nG++κ.ae nQ).Nodup:=by
        have τ:=OT (m:=qa) ⟨vK e3,λ g aK=>(aox.out g aK).2⟩ (vK e7) OJ.out o_;have aa:=OT τ (vK eF) OK.out l3;have aw:=OT (n:=ra.heap.size) (m:=St.heap.size) ⟨aa.1,λ g aK=>by have:=aa.2 g aK;omega⟩ (vK nG) H4.lt axV;exact (OT aw (vK nQ) H5.lt (by have:=E4.size;omega)).1
      obtain ⟨Ng,an1⟩:∃ Ng,Hid ((Zw.setCell ⟨w.heap.size,5,none⟩ (.slice nG W.br.length o5)).setCell ⟨w.heap.size,6,none⟩ (.slice nQ W.ak.length pb)=Ng):=⟨_,aRF rfl⟩;rw [an1.out] at HJ VV V8 V6 VX K2 V3 V_ ⊢;have anM:=aRF (show bq Ng w.heap.size ⟨e3,e7,eF,nG,nQ,oj,mJ,mZ,o5,pb⟩ W from ⟨V6,VX.down (by show w.heap.size≤cH.heap.size;omega),K2.down (by omega),V3.down (by show w.heap.size≤ra.heap.size;omega),V_.down (by omega),jD,fe.out⟩);have anQ:Hid (w.heap.size+1∉bq.bX ⟨e3,e7,eF,nG,nQ,oj,mJ,mZ,o5,pb⟩):=aRF (λ h=>by
        unfold bq.bX at h;simp only [aRR] at h;rcases h with (((h | h) | h) | h) | h
        · exact aor.out h
        · have:=(OJ.out _ h).1;omega
        · have:=(OK.out _ h).1;omega
        · have:=(H4.lt _ h).1;(try simp at this);omega
        · have:=(H5.lt _ h).1;(try simp at this);omega)
      have fR:=aRF V8;have anD:Hid (aR Ng w.heap.size [.int .i64 W.field.wide, .int .i64 W.field.high, .slice e3 W.field.aZ.length oj, .slice e7 W.aW.length mJ, .slice eF W.bk.length mZ, .slice nG W.br.length o5, .slice nQ W.ak.length pb, .int .i64 W.next, .int .i64 W.now] 28 (0,0)):=aRF VV;clear VV V8 V6 VX K2 V3 V_ jD H4 H5 E4 HI xF Ld b1 c1 c2 c3 c4 c5 dD dT eo d0 d1 d2 d3 d4 d5 d6 d7 d8 f5 f6;obtain ⟨b1,c1,c2,c3,c4,c5,dD,dT,eo⟩:=DI anD.out;obtain ⟨e0,a_,bj,cV,jK,Kv,Kw,adW,adX⟩:=DI fR.out;have aB:=λ j=>fR.out.free j (.inr (aSo _));have aJt:=aB 0;have aJu:=aB 1;have aJv:=aB 2;have aJw:=aB 3;have aJx:=aB 4;have aJy:=aB 5;have aJz:=aB 6;have aJA:=aB 7;have aJB:=aB 8;clear aB;go_wp2_with fail
      obtain ⟨Zx,an2⟩:∃ Zx,Hid ((((((((((Ng.setCell ⟨w.heap.size+1,0,none⟩ (.int .i64 W.field.wide)).setCell ⟨w.heap.size+1,1,none⟩ (.int .i64 W.field.high)).setCell ⟨w.heap.size+1,2,none⟩ (.slice e3 W.field.aZ.length oj)).setCell ⟨w.heap.size+1,3,none⟩ (.slice e7 W.aW.length mJ)).setCell ⟨w.heap.size+1,4,none⟩ (.slice eF W.bk.length mZ)).setCell ⟨w.heap.size+1,5,none⟩ (.slice nG W.br.length o5)).setCell ⟨w.heap.size+1,6,none⟩ (.slice nQ W.ak.length pb)).setCell ⟨w.heap.size+1,7,none⟩ (.int .i64 W.next)).setCell ⟨w.heap.size+1,8,none⟩ (.int .i64 W.now))=Zx):=⟨_,aRF rfl⟩;have afv:=aAh fR.out (.int .i64 W.field.wide) (.int .i64 W.field.high) (.slice e3 W.field.aZ.length oj) (.slice e7 W.aW.length mJ) (.slice eF W.bk.length mZ) (.slice nG W.br.length o5) (.slice nQ W.ak.length pb) (.int .i64 W.next) (.int .i64 W.now);have afr:=anM.out.nine anQ.out (.int .i64 W.field.wide) (.int .i64 W.field.high) (.slice e3 W.field.aZ.length oj) (.slice e7 W.aW.length mJ) (.slice eF W.bk.length mZ) (.slice nG W.br.length o5) (.slice nQ W.ak.length pb) (.int .i64 W.next) (.int .i64 W.now);have Qn:=apr HJ (show w.heap.size≤w.heap.size+1 by omega) (.int .i64 W.field.wide) (.int .i64 W.field.high) (.slice e3 W.field.aZ.length oj) (.slice e7 W.aW.length mJ) (.slice eF W.bk.length mZ) (.slice nG W.br.length o5) (.slice nQ W.ak.length pb) (.int .i64 W.next) (.int .i64 W.now);rw [an2.out] at afv afr Qn ⊢;obtain ⟨v0,v1,v2,v3,v4,v5,v6,aEn,aEo⟩:=DI afv;refine aVC (v:= .agg #[.int .i64 W.field.wide, .int .i64 W.field.high, .slice e3 W.field.aZ.length oj, .slice e7 W.aW.length mJ, .slice eF W.bk.length mZ, .slice nG W.br.length o5, .slice nQ W.ak.length pb, .int .i64 W.next, .int .i64 W.now]) ?_ Z ⟨⟨e3,e7,eF,nG,nQ,oj,mJ,mZ,o5,pb⟩,Z,afr,Qn⟩;simp [results,results99,go_sem,v0,v1,v2,v3,v4,v5,v6,aEn,aEo]
end
section
theorem anA:eC prog zG 58 4 1:=eC.kT (z:= .bool false) (k:=1) underlying58 (by kernel_rfl) rfl rfl (by decide) (λ j u h=>akn j u h)
theorem ah.adG {W:ah} {d:cn} (h:d.kind=1):W.lz d=W.nK d:=by unfold ah.lz;rw [aRP h]
theorem ah.adE {W:ah} {d:cn} (h:d.kind=2):W.lz d=W.drop d:=by unfold ah.lz;rw [aRL (by omega),aRP h]
theorem ah.adF {W:ah} {d:cn} (h:d.kind=3):W.lz d=W.r5 d:=by unfold ah.lz;rw [aRL (by omega),aRL (by omega),aRP h]
theorem ah.adH {W:ah} {d:cn} (τ:¬ d.kind=1) (aa:¬ d.kind=2) (aw:¬ d.kind=3):W.lz d=none:=by unfold ah.lz;rw [aRL τ,aRL aa,aRL aw]
theorem UM {W:ah} {V:Option ah} {w aP:World} {aC S:Nat} {a:ah.b5} {f:FuncId} {args:Array Value} (h:Calls prog f args aP (xd W V aP aC S a)) (x:Ext w aP):Calls prog f args aP (xd W V w aC S a):=
 h.mono λ e cH ⟨a2,τ,aa,aw,a1⟩=>⟨a2,τ,aa,λ q I=>(aw q I).imp id λ h=>aR5 x.size h,(Mod.bC x).trans a1⟩
theorem azT (d:cn) (w:World) (aC S:Nat) (a:ah.b5) (W:ah) (h:lR w aC S a W) (bB:Good W):Calls prog 138 #[.pointer (some ⟨S,0,none⟩), .agg #[.int .i64 d.kind, .int .i64 d.aQ, .int .i64 d.spot.x, .int .i64 d.spot.y, .int .i64 d.what]] w (xd W (W.nK d) w aC S a):=by
 cases hf:W.ak.findIdx? (hh d.aQ) with
 | none=>exact azS d w aC S a W h bB hf
 | some k=>obtain ⟨t,aG,_⟩:=Hr hf;exact azR d w aC S a W h bB k t hf aG
theorem arS (d:cn) (w:World) (aC S:Nat) (a:ah.b5) (W:ah) (h:lR w aC S a W) (bB:Good W):Calls prog 139 #[.pointer (some ⟨S,0,none⟩), .agg #[.int .i64 d.kind, .int .i64 d.aQ, .int .i64 d.spot.x, .int .i64 d.spot.y, .int .i64 d.what]] w (xd W (W.drop d) w aC S a):=by
 cases hf:W.ak.findIdx? (hh d.aQ) with
 | none=>exact arR d w aC S a W h bB hf
 | some k=>obtain ⟨t,aG,_⟩:=Hr hf;exact drop2 d w aC S a W h bB k t hf aG
theorem awh (d:cn) (w:World) (aC S:Nat) (a:ah.b5) (W:ah) (h:lR w aC S a W) (bB:Good W):Calls prog 140 #[.pointer (some ⟨S,0,none⟩), .agg #[.int .i64 d.kind, .int .i64 d.aQ, .int .i64 d.spot.x, .int .i64 d.spot.y, .int .i64 d.what]] w (xd W (W.r5 d) w aC S a):=awg d w aC S a W h bB
theorem lR.mod {w aP:World} {aC S:Nat} {a:ah.b5} {W:ah} {T:List Nat} (h:lR w aC S a W) (m:Mod T w aP) (hd:∀ q∈T,q≠S∧q∉bq.bX a):lR aP aC S a W :=
 ⟨h.ft.mod m λ I=>(hd _ I).1 rfl,h.own.mod m λ q I b8=>(hd q b8).2 I,h.a8,h.low⟩
def ah.rM (W:ah) (l:List cn):Int:=if W.bo≠0 then W.bo else if 200<l.length then 2 else 0
def ah.iK (W:ah) (l:List cn):ah:=if W.rM l=0 then (W.h0 l).1 else ah.zero
def ah.vS (W:ah) (l:List cn):List Bool:=if W.rM l=0 then (W.h0 l).2 else []
def ann (W:ah) (l:List cn) (w:World) (e:Ending) (w':World):Prop :=
 ∃ a' A c,e= .returned (.tuple #[.agg (ah.cells a' (W.iK l)).toArray, .slice A (W.vS l).length c, .int .i64 (W.rM l)])∧bq w' w.heap.size a' (W.iK l)∧zG.aD 4 1 w' w.heap.size (κ.ae A) A c (W.vS l)∧(∀ q∈κ.ae A,q∉bq.bX a')∧Ext w w'
theorem arH {W:ah} {l:List cn} (h:¬ W.bo=0):W.iK l=ah.zero∧W.vS l= []∧W.rM l=W.bo:=by
 have he:W.rM l=W.bo:=by unfold ah.rM;rw [aRP h]
 unfold ah.iK ah.vS;rw [he,aRL h,aRL h];exact ⟨Z,Z,Z⟩
theorem arI {W:ah} {l:List cn} (h:W.bo=0) (az:200<l.length):W.iK l=ah.zero∧W.vS l= []∧W.rM l=2:=by
 have he:W.rM l=2:=by unfold ah.rM;rw [aRL (by simpa using h),aRP az]
 unfold ah.iK ah.vS;rw [he];exact ⟨Z,Z,Z⟩
theorem UQ {W:ah} {l:List cn} (h:W.bo=0) (az:l.length≤200):W.rM l=0:=by unfold ah.rM;rw [aRL (by simpa using h),aRL (by omega)]
theorem adO {W:ah} {l:List cn} (h:W.bo=0) (az:l.length≤200):W.iK l=(W.h0 l).1:=by unfold ah.iK;rw [aRP (UQ h az)]
theorem adP {W:ah} {l:List cn} (h:W.bo=0) (az:l.length≤200):W.vS l=(W.h0 l).2:=by unfold ah.vS;rw [aRP (UQ h az)]
theorem arq (W:ah) (l:List cn) (d:cn):W.h0 (l++ [d])=(((W.h0 l).1.lz d).getD (W.h0 l).1,(W.h0 l).2++ [((W.h0 l).1.lz d).isSome]):=by
 induction l generalizing W with
 | nil=>simp only [aT2,ah.h0];cases W.lz d<;>rfl
 | cons x r bD =>
  simp only [aTz,ah.h0];cases W.lz x with
  | none=>simp only [bD];rfl
  | some V=>simp only [bD];rfl
theorem UN {W:ah} {l:List cn} {k:Nat} (ar:k<l.length):W.h0 (l.take (k+1))=(((W.h0 (l.take k)).1.lz (l.getD k default)).getD (W.h0 (l.take k)).1,(W.h0 (l.take k)).2++ [((W.h0 (l.take k)).1.lz (l.getD k default)).isSome]):=by
 rw [← arq,aR2 ar];congr 3;rw [aRB,aRD ar];rfl
theorem arp (W:ah) (l:List cn):(W.h0 l).2.length=l.length:=by
 induction l generalizing W with
 | nil=>rfl
 | cons x r bD =>
  simp only [ah.h0];cases W.lz x with
  | none=>simp only [aRG,bD]
  | some V=>simp only [aRG,bD]
theorem aro (d:cn) (w:World) (aC S:Nat) (a:ah.b5) (W:ah) (h:lR w aC S a W) (bB:Good W):
  Calls prog 100 #[.pointer (some ⟨S,0,none⟩), .agg #[.int .i64 d.kind, .int .i64 d.aQ, .int .i64 d.spot.x, .int .i64 d.spot.y, .int .i64 d.what]] w (xd W (W.lz d) w aC S a):=by
 refine ch (n:=22) func100 Z Z Z ?_;refine aj<|cB Z Z Z Z λ cv bJ a7 ee ab=> ?_;have:=a7.size;have bg:=γ (Ext.bF w) a7;have hx:=bg;have ei:=ab.lt;refine va Z<|ai<|aA<|aj<|J (av ase Z)<|J (ao Z (ab.one bc Z))<|ai<|bM<|aj<|J (beq Z Z)<|va Z<|ai<| ?_;refine i' Z (λ qT=> ?_) (λ qT=> ?_)
 ·refine aj<|vm Z<|J (ao Z (ab.all Kz EH))<|ca asf Z Z ((UM (azT d _ aC S a W (h.later bg) bB) hx).mono ?_);rintro e vg ⟨a2,rfl,hS,hf,hm⟩;refine ⟨_,Z, ?_⟩;refine va Z<|ai<|rt<|e_<|bT<|bb (.tmp Z .nil)<| ?_;exact ⟨a2,by rw [ah.adG ‹_›];rfl,by rw [ah.adG ‹_›];exact hS,hf,hm⟩
 ·refine aj<|J (beq Z Z)<|va Z<|ai<| ?_;refine i' Z (λ pT=> ?_) (λ pT=> ?_)
  ·refine aj<|vm Z<|J (ao Z (ab.all Kz EH))<|ca asg Z Z ((UM (arS d _ aC S a W (h.later bg) bB) hx).mono ?_);rintro e tK ⟨a2,rfl,hS,hf,hm⟩;refine ⟨_,Z, ?_⟩;refine va Z<|ai<|rt<|e_<|bT<|bb (.tmp Z .nil)<| ?_;exact ⟨a2,by rw [ah.adE ‹_›];rfl,by rw [ah.adE ‹_›];exact hS,hf,hm⟩
  ·refine aj<|J (beq Z Z)<|va Z<|ai<| ?_;refine i' Z (λ qQ=> ?_) (λ qQ=> ?_)
   ·refine aj<|vm Z<|J (ao Z (ab.all Kz EH))<|ca ash Z Z ((UM (awh d _ aC S a W (h.later bg) bB) hx).mono ?_);rintro e zU ⟨a2,rfl,hS,hf,hm⟩;refine ⟨_,Z, ?_⟩;refine va Z<|ai<|rt<|e_<|bT<|bb (.tmp Z .nil)<| ?_;exact ⟨a2,by rw [ah.adF ‹_›];rfl,by rw [ah.adF ‹_›];exact hS,hf,hm⟩
   ·refine e9<|b0<|aV<|aj<|va Z<|ai<|rt<|bb (.tmp Z .nil)<| ?_;exact ⟨a,by rw [ah.adH ‹_› ‹_› ‹_›];rfl,by rw [ah.adH ‹_› ‹_› ‹_›];exact h.later bg,λ q I=> .inl I,Mod.bC bg⟩
theorem arG (l:List cn) (A:Option Addr) (c:Nat) (w:World) (a:ah.b5) (W:ah) (bV:ah.Has w a W) (az:cn.rep.aJ 40 w A c l):
  Calls prog 63 #[.agg ((ah.cells a W).toArray), .slice A l.length c] w (ann W l w):=by
 have o2:=(Ext.bF w).size;refine ch (n:=40) func63 Z Z Z ?_;refine aj<|cB Z Z Z Z λ cv bJ a7 ee ab=> ?_;have:=a7.size;have bg:=γ (Ext.bF w) a7;have ei:=ab.lt;refine al Z pQ Z Z λ eK cw bl ie ag=> ?_;have:=bl.size;have bQ:=γ bg bl;have h3:=ag.lt;refine va Z<|va Z<|ai<|aA<|aj<| ?_;have ab:=ab.later bl;refine J (ao Z (ab.all du cf))<|ca Hm Z Z ((CA a W _ (bV.keep bQ)).mono ?_);rintro e h6 ⟨rfl,gH⟩;refine ⟨_,Z, ?_⟩;have:=gH.size;have df:=γ bQ gH;refine va Z<|ai<|aj<|vm Z<|J (bne Z Z)<|ai<| ?_;refine e1 Z (λ lW=> ?_) (λ lW=> ?_)
 ·refine aj<|J (v:= .agg #[.int .i64 0, .int .i64 0, .slice none 0 0, .slice none 0 0, .slice none 0 0, .slice none 0 0, .slice none 0 0, .int .i64 0, .int .i64 0]) (cK Z (by kernel_rfl))<|vm Z<| ?_;have ag:=ag.later gH;refine st (new:= [.int .i64 0, .int .i64 0, .slice none 0 0, .slice none 0 0, .slice none 0 0, .slice none 0 0, .slice none 0 0, .int .i64 0, .int .i64 0]) Z Z ag Z cf Z Z Z λ F7 mT ag=> ?_;have:=mT.size;have sF:=Ext.mod df mT bu;refine va Z<|va Z<|ai<|rt<|bT<|bb (.cell Z (ag.all du cf) (.tmp Z (.tmp Z .nil)))<| ?_;obtain ⟨a_,bj,cV⟩:=arH ‹_›;exact ⟨⟨none,none,none,none,none,0,0,0,0,0⟩,none,0,by rw [a_,bj,cV];rfl,by rw [a_];exact bq.zero _ _,by rw [bj];exact κ.aD.nil _,λ q I=>by simp [κ.ae] at I,sF⟩
 ·have bB:=Good.Bx lW;refine bt<|aA<|aj<|vm Z<|J (cA underlying125 Z)<|J (iw Z Z)<|ai<| ?_;refine eg Z (λ uK=> ?_) (λ uK=> ?_)
  ·refine aj<|J (v:= .agg #[.int .i64 0, .int .i64 0, .slice none 0 0, .slice none 0 0, .slice none 0 0, .slice none 0 0, .slice none 0 0, .int .i64 0, .int .i64 0]) (cK Z (by kernel_rfl))<| ?_;have ag:=ag.later gH;refine st (new:= [.int .i64 0, .int .i64 0, .slice none 0 0, .slice none 0 0, .slice none 0 0, .slice none 0 0, .slice none 0 0, .int .i64 0, .int .i64 0]) Z Z ag Z cf Z Z Z λ ve x0 ag=> ?_;have:=x0.size;have lM:=Ext.mod df x0 bu;refine va Z<|va Z<|ai<|rt<|bT<|bb (.cell Z (ag.all du cf) (.tmp Z (.tmp Z .nil)))<| ?_;obtain ⟨a_,bj,cV⟩:=arI (W:=W) (l:=l) lW (by omega);exact ⟨⟨none,none,none,none,none,0,0,0,0,0⟩,none,0,by rw [a_,bj,cV];rfl,by rw [a_];exact bq.zero _ _,by rw [bj];exact κ.aD.nil _,λ q I=>by simp [κ.ae] at I,lM⟩
  ·refine bt<|aj<| ?_;have ab:=ab.later gH;refine J (ao Z (ab.all du cf))<|ca asi Z Z ((aAX a W _ (bV.keep df)).mono ?_);rintro e tM ⟨cd,rfl,aT,fb⟩;refine ⟨_,Z, ?_⟩;have:=fb.size;have hX:=γ df fb;have zQ:=λ q I=>(aT.lt q I).2;have lo:=λ q I=>(aT.lt q I).1;refine J (v:= .agg #[.int .i64 W.field.wide, .int .i64 W.field.high, .slice cd.P W.field.aZ.length cd.p, .slice cd.B W.aW.length cd.b, .slice cd.S W.bk.length cd.s, .slice cd.M W.br.length cd.m, .slice cd.T W.ak.length cd.t, .int .i64 W.next, .int .i64 W.now]) (cK Z (by kernel_rfl))<|al Z asj Z Z λ zV AE kv ayT Ab=> ?_;have:=kv.size;have my:=γ hX kv;have YE:=Ab.lt;refine st (new:= [.int .i64 W.field.wide, .int .i64 W.field.high, .slice cd.P W.field.aZ.length cd.p, .slice cd.B W.aW.length cd.b, .slice cd.S W.bk.length cd.s, .slice cd.M W.br.length cd.m, .slice cd.T W.ak.length cd.t, .int .i64 W.next, .int .i64 W.now]) Z Z Ab Z asl Z Z Z λ wN k_ Ab=> ?_;have:=k_.size;have mb:=Ext.mod my k_ bu;refine ai<|aj<|va Z<|ai<|aA<|aj<|vm Z<|J (cA underlying125 Z)<|vm Z<|ai<|bM<| ?_;have aT:=aT.later kv;have aT:=aT.mod k_ (bL zQ);have fp:lR wN h6.heap.size AE cd W:=⟨Ab,aT,λ I=>by have:=zQ _ I;omega,by omega⟩;have ag:=ag.later (γ gH (γ fb kv));have ag:=ag.mod k_ aO;refine e8 (λ cm cl aU=>∃ k:Nat,∃ a2:ah.b5,∃ lO:Option Addr,∃ y3:Nat,cl= [(4, .pointer (some ⟨cw,0,none⟩)),(5, .slice none 0 0),(6, .int .i64 0),(8, .pointer (some ⟨AE,0,none⟩)),(9, .slice lO ((W.h0 (l.take k)).2.length) y3),(25, .slice A l.length c),(26, .int .i64 (l.length:Int)),(27, .int .i64 (k:Int))]∧cm=l.length - k∧Ext w aU∧aR aU cw [.int .i64 0, .int .i64 0, .slice none 0 0, .slice none 0 0, .slice none 0 0, .slice none 0 0, .slice none 0 0, .int .i64 0, .int .i64 0] 28 (0,0)∧lR aU h6.heap.size AE a2 (W.h0 (l.take k)).1∧zG.aD 4 1 aU w.heap.size (κ.ae lO) lO y3 (W.h0 (l.take k)).2∧(k≤l.length)∧(∀ q∈κ.ae lO,q≠AE∧q∉bq.bX a2)∧(∀ q∈κ.ae lO,q=cw→False)) _ _ ⟨0,cd,none,0,Z,Z,mb,ag,fp,(κ.aD.nil _),by omega,λ q I=>by simp [κ.ae] at I,(λ q I Φ=>by (simp [κ.ae] at I))⟩ (.cons Z (.cons Z (.cons Z (.cons Z (.cons Z (.cons Z (.cons Z (.cons (bZ Z (by first | omega | rfl | (simp<;>omega))) .nil)))))))) ?_;rintro jP aHc Nl ⟨k,a2,lO,y3,rfl,rfl,pj,ag,fp,qE,ar,hd,s0⟩;have:=pj.size;have aOQ:=ag.lt;have DB:=λ q I=>(qE.lt q I).2;have R_:=λ q I=>(fp.own.lt q I).2;have HK:=fp.ft.lt;have hle:=az.ez;have HQ:(W.h0 (l.take k)).2.length=k:=by rw [arp,aRE];omega
   refine aj<|J (blt Z Z)<|ai<|aA<| ?_;refine eg Z (λ A4=> ?_) (λ A4=> ?_)
   ·refine bt<|aA<|bM<|aj<|J (b' k underlying125 EH Z Z ((az.keep pj).bR (ba k)) Z (by omega))<|J (ao Z (κ.aJ.ho avM (by rw [← (az.keep pj).bR (ba k)];exact (az.keep pj)) (dv (l:=l) (u:=default) (by omega)) Kz EH))<|al Z asm Z Z λ Np Cw ky ayV Oa=> ?_;have:=ky.size;have tY:=γ pj ky;have YG:=Oa.lt;refine st (new:= [.int .i64 ((l.getD k default).kind), .int .i64 ((l.getD k default).aQ), .int .i64 ((l.getD k default).spot.x), .int .i64 ((l.getD k default).spot.y), .int .i64 ((l.getD k default).what)]) Z Z Oa Z EH Z Z Z λ ZB wv Oa=> ?_;have:=wv.size;have Gp:=Ext.mod tY wv bu;refine ai<|rg<|vm Z<|J (ao Z (Oa.all Kz EH))<| ?_;have fp:=fp.later ky;have fp:=fp.mod wv (λ q I=>by rw [aRz.1 I];exact ⟨by omega,λ hf=>by have:=R_ _ hf;have:=(fp.own.lt _ hf).1;omega⟩);have qE:=qE.later ky;have qE:=qE.mod wv (bL DB);refine ca asn Z Z ((aro (l.getD k default) _ h6.heap.size AE a2 (W.h0 (l.take k)).1 fp (bB.h0 _)).mono ?_);rintro e Ja ⟨a3,rfl,n1,hf,nV⟩;refine ⟨_,Z, ?_⟩;have hu:=λ q I=>(qE.lt q I).2;have:=nV.size;have sI:=Ext.mod Gp nV (λ q I=>(aRW.1 I).elim (λ h=>by rw [h];omega) (λ h=>by have:=(fp.own.lt q h).1;omega));have HO:∀ q∈κ.ae lO,q≠AE∧q∉bq.bX a3:=λ q I=>⟨(hd q I).1,λ h=>(hf q h).elim (hd q I).2 (λ h=>by have:=hu q I;omega)⟩;have anX:=fp;have fp:=n1;have R_:=λ q I=>(fp.own.lt q I).2;refine cX (e:= 4) (cs:= [.bool (((W.h0 (l.take k)).1.lz (l.getD k default)).isSome)]) Z (λ _=>by kernel_rfl) Z λ Jb aIn lj aMv aaJ=> ?_;have:=lj.size;have qy:=γ sI lj;have aB7:=aaJ.lt;have qE:=qE.mod nV (λ q I h=>(aRW.1 h).elim (hd q I).1 (hd q I).2);have qE:=qE.later lj;refine ap anA κ.di qE (aR.gB (R:=zG) (by_:=1) (q:=((W.h0 (l.take k)).1.lz (l.getD k default)).isSome) aaJ ⟨Z,trivial⟩ (by decide)) Z Z (by simp only [aRG,aRM];omega) (by simp only [aRG,aRM];omega) qy.size Z λ ZF aah ap7 p_ abO ae2 aNP=> ?_;have:=p_.size;have Gs:=Ext.mod qy p_ (λ q I=>(qE.lt q I).1);have aD9:=λ q I=>(abO.lt q I).2;have:=p_.size;have afZ:∀ q∈κ.ae aah,q≠AE∧q∉bq.bX a3:=λ q I=>(ae2 q I).elim (HO q) (λ h=>⟨by omega,λ hf=>by have:=R_ q hf;omega⟩);refine va Z<|nl<|b0<|aV<|rg<|J (bad Z Z (bE (by omega)))<|vm Z<|nl<| ?_;have ag:=ag.later ky;have ag:=ag.mod wv aO;have ag:=ag.mod nV (λ h=>(aRW.1 h).elim (λ h=>by omega) (λ h=>by have:=(anX.own.lt _ h).1;omega));have ag:=ag.later lj;have ag:=ag.mod p_ (λ I=>s0 _ I rfl);have fp:=fp.later lj;have fp:=fp.mod p_ (λ q I=>HO q I);exact c6 _ _ ⟨k+1,a3,aah,ap7,Z,Z,Gs,ag,(by rw [UN (by omega:k<l.length)];exact fp),(by rw [UN (by omega:k<l.length)];exact abO),by omega,afZ,(λ q I Φ=>by (exact aRO (ae2 q I) (λ xV=>by (exact s0 q xV Φ)) (λ xV=>by omega)))⟩ (by omega) (.cons Z (.cons Z (.cons Z (.cons Z (.cons (by rw [UN (by omega:k<l.length)];rfl) (.cons Z (.cons Z (.cons (bZ Z (by first | omega | rfl | (simp<;>omega))) .nil))))))))
   ·refine dH<|dG<|ef<|dF<|aV<|aj<|J (av nv Z)<|J (ao Z (fp.ft.all du cf))<|vm Z<|st Z Z ag Z cf Z Z Z λ Je ig ag=> ?_;have:=ig.size;have pk:=Ext.mod pj ig bu;refine va Z<|va Z<|ai<|rt<|bb (.cell Z (ag.all du cf) (.tmp Z (.tmp Z .nil)))<| ?_;have fp:=fp.mod ig (λ q I=>by rw [aRz.1 I];exact ⟨by omega,λ hf=>by have:=R_ _ hf;have:=(fp.own.lt _ hf).1;omega⟩);have qE:=qE.mod ig (λ q I h=>by have Φ:=aRz.1 h;exfalso;(exact s0 q I Φ));obtain rfl:k=l.length:=by omega
    refine ⟨a2,lO,y3, ?_, ?_, ?_,λ q I=>(hd q I).2,pk⟩
    ·rw [adO lW (by omega),adP lW (by omega),UQ lW (by omega),aSi];rfl
    ·rw [adO lW (by omega)];rw [aSi] at fp;exact fp.own.down (by omega)
    ·rw [adP lW (by omega)];rw [aSi] at qE;exact qE
end
section
def wt (t:bf):Int:=t.load+ah.kU t.kind
def ah.total (W:ah):Int:=W.br.sum+W.bk.sum+(W.ak.map wt).sum
def ah.aRu (W:ah):Int:=if W.bo=0 then W.total else 0
end
section
theorem atK {α:Type} {l m:List α} {k:Nat} (τ:l.length=m.length) (ar:l.length≤k) (h:∀ j,j<k→l[j]? =m[j]?):l=m:=by
 apply aTf;intro j;by_cases ay:j<k
 ·exact h j ay
 ·rw [aSR (by omega),aSR (by omega)]
theorem aAd {α:Type} [DecidableEq α] {a b:α} (h:(!decide (a=b))=true):¬ a=b:=by simpa using h
theorem atL {α:Type} [DecidableEq α] {a b:α} (h:(!decide (a=b))=false):a=b:=by simpa using h
end
section
def kW:ah:=⟨⟨3,1, [0,0,3]⟩, [⟨0,0⟩], [20], [0,0,9], [⟨1,0,1,⟨1,0⟩,10,0⟩],2,0⟩
def aC8:List cn:= [(⟨1,1,⟨2,0⟩,0⟩:cn),(⟨3,0,⟨0,0⟩,2⟩:cn)]
def aPl:ah:=kW.iK aC8
theorem ak0  (w:World):
  Calls prog 48 #[] w (λ e w'=>∃ a,e= .returned (.agg (ah.cells a kW).toArray)∧bq w' w.heap.size a kW∧Ext w w'):=by
 refine ch (n:=11) func48 Z Z Z ?_;refine aj<|al Z pQ Z Z λ cv bJ a7 ee ab=> ?_;have:=a7.size;have bg:=γ (Ext.bF w) a7;have ei:=ab.lt;refine ai<|aj<|cX (e:= 3) (cs:= [.int .i64 0, .int .i64 0, .int .i64 3]) Z (λ _=>by kernel_rfl) Z λ eK cw bl ie ag=> ?_;have:=bl.size;have bQ:=γ bg bl;have h3:=ag.lt;refine J (v:= .agg #[.int .i64 3, .int .i64 1, .slice (some ⟨cw,0,none⟩) 3 3]) (cK Z (by kernel_rfl))<|J (v:= .agg #[.int .i64 0, .int .i64 0]) (cK Z (by kernel_rfl))<|cX (e:= 49) (cs:= [.int .i64 0, .int .i64 0]) Z (λ _=>by kernel_rfl) Z λ h6 h9 b9 qZ aI=> ?_;have:=b9.size;have df:=γ bQ b9;have o':=aI.lt;refine cX (e:= 3) (cs:= [.int .i64 20]) Z (λ _=>by kernel_rfl) Z λ na G4 dW XN pq=> ?_;have:=dW.size;have e4:=γ df dW;have MP:=pq.lt;refine cX (e:= 3) (cs:= [.int .i64 0, .int .i64 0, .int .i64 9]) Z (λ _=>by kernel_rfl) Z λ tM G5 fQ aiQ jk=> ?_;have:=fQ.size;have hX:=γ e4 fQ;have aBX:=jk.lt;refine J (v:= .agg #[.int .i64 1, .int .i64 0]) (cK Z (by kernel_rfl))<|J (v:= .agg #[.int .i64 1, .int .i64 0, .int .i64 1, .int .i64 1, .int .i64 0, .int .i64 10, .int .i64 0]) (cK Z (by kernel_rfl))<|cX (e:= 66) (cs:= [.int .i64 1, .int .i64 0, .int .i64 1, .int .i64 1, .int .i64 0, .int .i64 10, .int .i64 0]) Z (λ _=>by kernel_rfl) Z λ I8 Kh gW aiS vA=> ?_;have:=gW.size;have sG:=γ hX gW;have YF:=vA.lt;refine J (v:= .agg #[.int .i64 3, .int .i64 1, .slice (some ⟨cw,0,none⟩) 3 3, .slice (some ⟨h9,0,none⟩) 1 1, .slice (some ⟨G4,0,none⟩) 1 1, .slice (some ⟨G5,0,none⟩) 3 3, .slice (some ⟨Kh,0,none⟩) 1 1, .int .i64 2, .int .i64 0]) (cK Z (by kernel_rfl))<| ?_;have ab:=ab.later (γ bl (γ b9 (γ dW (γ fQ gW))));refine st (new:= [.int .i64 3, .int .i64 1, .slice (some ⟨cw,0,none⟩) 3 3, .slice (some ⟨h9,0,none⟩) 1 1, .slice (some ⟨G4,0,none⟩) 1 1, .slice (some ⟨G5,0,none⟩) 3 3, .slice (some ⟨Kh,0,none⟩) 1 1, .int .i64 2, .int .i64 0]) Z Z ab Z cf Z Z Z λ yl l2 ab=> ?_;have:=l2.size;have jX:=Ext.mod sG l2 bu;refine ai<|rt<|bb (.cell Z (ab.all du cf) .nil)<| ?_;have ag:=ag.later (γ b9 (γ dW (γ fQ gW)));have ag:=ag.mod l2 aO;have aI:=aI.later (γ dW (γ fQ gW));have aI:=aI.mod l2 aO;have pq:=pq.later (γ fQ gW);have pq:=pq.mod l2 aO;have jk:=jk.later gW;have jk:=jk.mod l2 aO;have vA:=vA.mod l2 aO;exact ⟨⟨some ⟨cw,0,none⟩,some ⟨h9,0,none⟩,some ⟨G4,0,none⟩,some ⟨G5,0,none⟩,some ⟨Kh,0,none⟩,3,1,1,3,1⟩,Z,⟨aR.wD (R:=bP) (by_:=8) (B:=w.heap.size) (k:= [0,0,3]) ag [[.int .i64 0], [.int .i64 0], [.int .i64 3]] Z ⟨⟨Z,bI.2 (by decide)⟩,⟨Z,bI.2 (by decide)⟩,⟨Z,bI.2 (by decide)⟩,trivial⟩ (by simp) (by simp) (by decide) (by omega),aR.wD (R:=ax.rep) (by_:=16) (B:=w.heap.size) (k:= [⟨0,0⟩]) aI [[.int .i64 0, .int .i64 0]] Z ⟨⟨Z,bI.2 (by decide),bI.2 (by decide)⟩,trivial⟩ (by simp) (by simp) (by decide) (by omega),aR.wD (R:=bP) (by_:=8) (B:=w.heap.size) (k:= [20]) pq [[.int .i64 20]] Z ⟨⟨Z,bI.2 (by decide)⟩,trivial⟩ (by simp) (by simp) (by decide) (by omega),aR.wD (R:=bP) (by_:=8) (B:=w.heap.size) (k:= [0,0,9]) jk [[.int .i64 0], [.int .i64 0], [.int .i64 9]] Z ⟨⟨Z,bI.2 (by decide)⟩,⟨Z,bI.2 (by decide)⟩,⟨Z,bI.2 (by decide)⟩,trivial⟩ (by simp) (by simp) (by decide) (by omega),aR.wD (R:=bf.rep) (by_:=56) (B:=w.heap.size) (k:= [⟨1,0,1,⟨1,0⟩,10,0⟩]) vA [[.int .i64 1, .int .i64 0, .int .i64 1, .int .i64 1, .int .i64 0, .int .i64 10, .int .i64 0]] Z ⟨⟨Z,bI.2 (by decide),bI.2 (by decide),bI.2 (by decide),bI.2 (by decide),bI.2 (by decide),bI.2 (by decide),bI.2 (by decide)⟩,trivial⟩ (by simp) (by simp) (by decide) (by omega),by simp [κ.ae];omega,bI.2 (by decide),bI.2 (by decide),bI.2 (by decide),bI.2 (by decide)⟩,jX⟩
end
section
theorem aAk:∀ (n:Nat) (l:List Nat),l.Nodup→(∀ x∈l,x<n)→l.length≤n:=by
 intro n;induction n with
 | zero =>
  intro l _ h;cases l with
  | nil=>exact aRN _
  | cons x r=>exact absurd (h x aRZ) (by omega)
 | succ n bD =>
  intro l hn h;by_cases hm:n∈l
  ·have τ:=bD (l.erase n) (hn.erase _) (λ x hx=>by
    have:=h x (List.mem_of_mem_erase hx);have fh:x≠n:=λ e=>by subst e;exact (List.Nodup.not_mem_erase hn) hx
    omega)
   rw [List.length_erase_of_mem hm] at τ;omega
  ·have:=bD l hn (λ x hx=>by
    have:=h x hx;have fh:x≠n:=λ e=>hm (by rw [← e];exact hx)
    omega)
   omega
section
variable {f:aE} {a b c x y:ax} {d D:Int} {a8:List Int} {aB:ax→Int}
theorem aqo (hf:f.bo=0) {l:List ax} (hn:l.Nodup) (aq:∀ x∈l,f.fk x=true):l.length≤f.aZ.length:=by
 have τ:(l.map f.at_).Nodup:=by
  have:∀ l:List ax,l.Nodup→(∀ x∈l,f.fk x=true)→(l.map f.at_).Nodup:=by
   intro l;induction l with
   | nil=>intro _ _;exact aVL
   | cons x r bD =>
    intro hn aq;rw [aUL] at hn;rw [aSs,aUL];refine ⟨λ hm=> ?_,bD hn.2 λ y aL=>aq y (aRQ _ aL)⟩;obtain ⟨y,aL,e⟩:=aSh.1 hm;have:=aE.aca hf (aq y (aRQ _ aL)) (aq x aRZ) e;subst this;exact hn.1 aL
  exact this l hn aq
 have:=aAk f.aZ.length _ τ (λ i hm=>by
  obtain ⟨y,aL,rfl⟩:=aSh.1 hm;exact (aE.y1 hf (aq y aL)).1)
 rwa [aSz] at this
abbrev mF (f:aE) (a:ax):ax→Int→Prop:=qC.oK f.cU f.gD (λ s=>s=a)
abbrev sN (f:aE) (a:ax):ax→Int→Prop:=qC.uh f.cU f.gD (λ s=>s=a)
theorem mF.q6 (r:mF f a x d):0≤d:=qC.oK.q6 (aE.Yt f) r
theorem mF.ground (ha:f.ground a=true) (r:mF f a x d):f.ground x=true:=by
 induction r with
 | start hs=>rw [hs];exact ha
 | step _ aL _=>exact (aE.MC.1 aL).2
theorem mF.tH (r:mF f a x d) {e:Int} (q:mF f x y e):mF f a y (d+e):=by
 induction q with
 | start hs=>rw [hs,Int.add_zero];exact r
 | step _ aL bD=>rw [← Int.add_assoc];exact .step bD aL
theorem sN.pred (h:sN f a x d):(x=a∧d=0)∨∃ p e,sN f a p e∧x∈f.cU p∧d=e+f.gD x:=by
 obtain ⟨r,hm⟩:=h;cases r with
 | start hs=>exact .inl ⟨hs,rfl⟩
 | @step p _ e hp aL =>
  obtain ⟨e',he⟩:=qC.oK.ahg (aE.Yt f) hp;have τ:=he.2 _ hp;have aa:=hm _ (.step he.1 aL);have:e=e':=by omega
  subst this;exact .inr ⟨p,e,he,aL,Z⟩
theorem sN.chain (hf:f.bo=0) (ha:f.ground a=true):∀ (n:Nat) (x:ax) (d:Int),sN f a x d→d.toNat=n→∃ l:List ax,l.Nodup∧(∀ y∈l,f.fk y=true∧∃ e,sN f a y e∧e≤d)∧d+3≤3 * (l.length:Int):=by
 intro n;induction n using Nat.strongRecOn with
 | ind n bD =>
  intro x d h hn;have hx:=aE.j8 (mF.ground ha h.1);rcases h.pred with ⟨τ,aa⟩ | ⟨p,e,τ,aa,aw⟩
  ·refine ⟨[x],by simp,λ y aL=> ?_,by rw [aa];simp⟩;rw [aRz.1 aL];exact ⟨hx,d,h,aTb _⟩
  ·have ar:=f.p5 (c:=x);have he:=mF.q6 τ.1;obtain ⟨l,ey,jN,Fs⟩:=bD e.toNat (by omega) p e τ rfl;refine ⟨x::l,aUL.2 ⟨λ hm=> ?_,ey⟩,λ y aL=> ?_,by rw [aRG];omega⟩
   ·obtain ⟨_,e',a1,bK⟩:=jN x hm;have:=a1.uniq h;omega
   ·rcases aRW.1 aL with rfl | aL
    ·exact ⟨hx,d,h,aTb _⟩
    ·obtain ⟨a1,e',bK,b_⟩:=jN y aL;exact ⟨a1,e',bK,by omega⟩
theorem sN.cK (hf:f.bo=0) (ha:f.ground a=true) (h:sN f a x d):d+3≤3 * (f.aZ.length:Int):=by
 obtain ⟨l,ey,jN,Fs⟩:=h.chain hf ha _ x d rfl;have:=aqo hf ey λ y aL=>(jN y aL).1;omega
def cellAt (f:aE) (i:Nat):ax:=⟨(i:Int) % f.wide,(i:Int) / f.wide⟩
theorem aqh (hf:f.bo=0) (hc:f.fk c=true):cellAt f (f.at_ c)=c:=by
 obtain ⟨_,_,a2,a3,a4,a5⟩:=aE.idx hf hc;have h:=(aE.y1 hf hc).2;unfold cellAt;rw [h];have a_:(c.y * f.wide+c.x) % f.wide=c.x:=by rw [aVr,aUm,aVq a2 a3]
 have bj:(c.y * f.wide+c.x) / f.wide=c.y:=by rw [aVr,Int.add_mul_ediv_right _ _ (by omega),Int.ediv_eq_zero_of_lt a2 a3,Int.zero_add]
 rw [a_,bj]
theorem auh (hf:f.bo=0) {g:ax→Int} (aK:∀ c,f.fk c=false→g c= -1):f.aB ((List.range f.aZ.length).map λ i=>g (cellAt f i)) c=g c:=by
 cases hc:f.fk c with
 | false=>rw [aE.Vz hc,aK c hc]
 | true =>
  rw [aE.Hv hc,aRB,aRU,aU8 (aE.y1 hf hc).1];show g (cellAt f (f.at_ c))=g c;rw [aqh hf hc]
theorem ajS (hf:f.bo=0) (ha:f.ground a=true) (b:ax):∃ a8,pH f a b a8:=by
 let Q:ax→Int→Prop:=λ c d=>sN f a c d∧∀ D,sN f a b D→d+aE.kJ b c≤D
 let g:ax→Int:=λ c=>@dite _ (∃ d,Q c d) (Classical.propDecidable _) (λ h=>h.choose) λ _=> -1
 have P7:∀ c d,Q c d→g c=d:=λ c d h=>by
  have hex:∃ d,Q c d:=⟨d,h⟩;show @dite _ (∃ d,Q c d) (Classical.propDecidable _) (λ h=>h.choose) (λ _=> -1)=d;rw [dif_pos hex];exact hex.choose_spec.1.uniq h.1
 have gn:∀ c,(¬ ∃ d,Q c d)→g c= -1:=λ c h=>by
  show @dite _ (∃ d,Q c d) (Classical.propDecidable _) (λ h=>h.choose) (λ _=> -1)= -1;rw [dif_neg h]
 have zf:∀ c,0≤g c→Q c (g c):=λ c h=>by
  by_cases hex:∃ d,Q c d
  ·obtain ⟨d,hd⟩:=hex;rw [P7 c d hd];exact hd
  ·rw [gn c hex] at h;omega
 have go:∀ c,f.fk c=false→g c= -1:=λ c hc=>gn c λ ⟨d,hd⟩=>by
  have:=aE.j8 (mF.ground ha hd.1.1);rw [hc] at this;cases this
 have nz:∀ c,f.aB ((List.range f.aZ.length).map λ i=>g (cellAt f i)) c=g c:=λ c=>auh hf go;refine ⟨(List.range f.aZ.length).map λ i=>g (cellAt f i),by rw [aSz,aWG],⟨λ c h=> ?_,λ c h=> ?_,λ c d hd hle=> ?_,λ c h=> ?_⟩,λ c=> ?_,λ c h=> ?_⟩
 ·rw [nz c] at h ⊢;by_cases hex:∃ d,Q c d
  ·obtain ⟨d,hd⟩:=hex;rw [P7 c d hd] at h;have:=mF.q6 hd.1.1;omega
  ·exact gn c hex
 ·rw [nz c] at h ⊢;exact zf c h
 ·rw [nz c];exact P7 c d ⟨hd,hle⟩
 ·rw [nz c] at h ⊢;have I:=zf c h;rcases I.1.pred with τ | ⟨p,e,τ,aa,aw⟩
  ·exact .inl τ
  ·right;have he:=aE.Vl b (aE.MC.1 aa).1;have ar:=f.p5 (c:=c);have hp:g p=e:=P7 p e ⟨τ,λ D vZ=>by have:=I.2 D vZ;omega⟩;exact ⟨p,by rw [nz p,hp];exact mF.q6 τ.1,aa,by rw [nz p,hp];exact aw⟩
 ·rw [nz c];by_cases h:0≤g c
  ·have:=(zf c h).1.cK hf ha;omega
  ·omega
 ·rw [nz c] at h;exact mF.ground ha (zf c h).1.1
theorem Vy (hf:f.bo=0) (ha:f.ground a=true):qC.Spec f.cU f.gD (aE.kJ b) (λ s=>s=a) b (cM f a b):=by
 obtain ⟨a8,h⟩:=ajS hf ha b;rw [← h.P1];exact h.spec
theorem KJ (hf:f.bo=0) (ha:f.ground a=true) (h:0≤cM f a b c):sN f a c (cM f a b c):=((Vy hf ha).oP c h).1
theorem aeT (hf:f.bo=0) (ha:f.ground a=true) (h:sN f a b d):cM f a b b=d:=(Vy hf ha).end_ (aE.Vk b) h
theorem aug (hf:f.bo=0) (ha:f.ground a=true) (h:mF f a b d):0≤cM f a b b∧cM f a b b≤d:=by
 obtain ⟨e,he⟩:=qC.oK.ahg (aE.Yt f) h;rw [aeT hf ha he];exact ⟨mF.q6 he.1,he.2 _ h⟩
theorem KK (hf:f.bo=0) (ha:f.ground a=true) (h:0≤cM f a b b):oH f a (cM f a b):=by
 obtain ⟨a8,hp⟩:=ajS hf ha b;exact oH.FO hp h
theorem aEZ (h:oH f a aB):∀ (n:Nat) (c:ax),0≤aB c→(aB c).toNat=n→∀ x∈fP f aB a c,0≤aB x∧aB x≤aB c∧f.ground x=true:=by
 intro n;induction n using Nat.strongRecOn with
 | ind n bD =>
  intro c hc hn x hx;by_cases e:c=a
  ·subst e;rw [BO h] at hx;rw [aRz.1 hx];exact ⟨hc,aTb _,h.gr _ hc⟩
  ·obtain ⟨eQ,fo,mW,x9⟩:=h.prev hc e;have ar:=f.p5 (c:=c);rw [BP h hc e] at hx;rcases aRW.1 hx with rfl | hx
   ·exact ⟨hc,aTb _,h.gr _ hc⟩
   ·obtain ⟨lH,mY,ya⟩:=bD _ (by omega) _ mW rfl x hx;exact ⟨lH,by omega,ya⟩
theorem Vq (he:g_ f a b=0):f.bo=0∧f.ground a=true∧f.ground b=true∧0≤cM f a b b∧oT f a b=cM f a b b∧fS f a b=(fP f (cM f a b) a b).reverse:=by
 rcases Vp f a b with ⟨τ,aa⟩ | ⟨τ,aa,aw⟩ | ⟨τ,aa,aw,a1⟩ | ⟨τ,aa,aw,a1 | a1⟩
 ·rw [aa] at he;exact absurd he τ
 ·rw [aw] at he;exact absurd he aa
 ·rw [a1] at he;cases he
 ·rw [a1.2] at he;cases he
 ·refine ⟨τ,aa,aw,a1.1, ?_, ?_⟩
  ·unfold oT;rw [aRP he]
  ·unfold fS;rw [aRP he]
end
end
section
def aNc:List bf:= [⟨1,0,1,⟨2,0⟩,10,0⟩]
def aNb:List dm:= [⟨1,⟨2,0⟩⟩]
end
section
def DZ (s t:bf):Prop:=s.id<t.id∧s.spot≠t.spot
theorem VM {α:Type} [Inhabited α] {l:List α} {i:Nat} {t:α} (h:l[i]? =some t):l.getD i default=t:=by rw [aRB,h];rfl
theorem Good.ax2 {W:ah} (bB:Good W) {i j:Nat} {s t:bf} (jC:i<j) (hs:W.ak[i]? =some s) (aG:W.ak[j]? =some t):s.id<t.id:=by
 induction j generalizing t with
 | zero=>omega
 | succ j bD =>
  have ay:=(aRC.1 aG).1;obtain ⟨u,hu⟩:=iN (l:=W.ak) (i:=j) (by omega);have τ:=(bB.ids (j+1) t aG).1;have aa:W.jO (j+1)=u.id:=by
   unfold ah.jO;rw [aRL (by omega),aVf,VM hu]
  rcases aUy.1 jC with h | rfl
  ·have:=bD h hu;omega
  ·rw [hs] at hu;injection hu with hu;subst hu;omega
theorem Good.IH {W:ah} (bB:Good W):W.ak.Pairwise DZ:=by
 rw [aSx];intro i j aq ay jC;have hs:=aRD aq;have aG:=aRD ay;refine ⟨bB.ax2 jC hs aG,λ e=> ?_⟩;have τ:=bB.jg j _ aG;rw [← e] at τ;have:(W.jg j).contains (W.ak[i]).spot=true:=by
  rw [aUV];unfold ah.jg;exact aSh.2 ⟨_,aTM.2 ⟨i,by rw [aSl,aRP jC,hs]⟩,Z⟩
 rw [this] at τ;exact nomatch τ
theorem Good.each {W:ah} (bB:Good W) {t:bf} (aG:t∈W.ak):0<t.id∧t.id<W.next∧OM W.field W.aW.length t:=by
 obtain ⟨i,aq⟩:=aTM.1 aG;have τ:=bB.ids i t aq;exact ⟨by omega,τ.2.1,bB.ak i t aq⟩
theorem Good.ajE {W V:ah} (bB:Good W) (hf:V.field=W.field) (Φ:V.aW=W.aW) (hs:V.bk=W.bk) (hm:V.br=W.br) (hn:V.next=W.next) (bS:0≤V.now∧V.now≤1000000) (az:V.ak.length≤100) (ck:V.ak.Pairwise DZ)
  (de:∀ t∈V.ak,0<t.id∧t.id<V.next∧OM V.field V.aW.length t):Good V where
 field:=by rw [hf];exact bB.field
 kq:=by rw [Φ];exact bB.kq
 dZ:=az
 sl:=by rw [hs,Φ];exact bB.sl
 aW:=by rw [Φ,hf];exact bB.aW
 bk:=by rw [hs];exact bB.bk
 x3:=by rw [hm,hf];exact bB.x3
 br:=by rw [hm,hf];exact bB.br
 ak:=λ i t aG=>(de t (aSc aG)).2.2
 ids:=λ i t aG=>by
  have τ:=de t (aSc aG);unfold ah.jO;split
  ·exact ⟨τ.1,τ.2.1,aTb _⟩
  ·rename_i aH
   have aq:=(aRC.1 aG).1;obtain ⟨u,hu⟩:=iN (l:=V.ak) (i:=i - 1) (by omega);rw [VM hu];have aa:=de u (aSc hu);have aw:=(aSx.1 ck) (i - 1) i (by omega) aq (by omega);have a_:V.ak[i - 1]'(by omega)=u:=(aRC.1 hu).2;have bj:V.ak[i]=t:=(aRC.1 aG).2;rw [a_,bj] at aw;exact ⟨aw.1,τ.2.1,by omega⟩
 jg:=λ i t aG=>by
  rw [aWJ];intro hc;rw [aUV] at hc;unfold ah.jg at hc;obtain ⟨s,fj,gC⟩:=aSh.1 hc;obtain ⟨j,ay⟩:=aTM.1 fj;rw [aSl] at ay;split at ay
  ·rename_i fM
   have aq:=(aRC.1 aG).1;have aw:=(aSx.1 ck) j i (by omega) aq fM;have a_:V.ak[j]'(by omega)=s:=(aRC.1 ay).2;have bj:V.ak[i]=t:=(aRC.1 aG).2;rw [a_,bj] at aw;exact aw.2 gC
  ·exact nomatch ay
 next:=by rw [hn];exact bB.next
 now:=bS
end
section
def alk (l:List bf) (x:Int):Option bf:=l.find? λ t=>t.id == x
def aPy (l:List bf) (x:Int):Value:= .tuple #[.agg ((alk l x).getD default).cells.toArray, .bool (alk l x).isSome]
def M4 (l:List Int):Bool:=(List.range (l.length - 1)).all λ i=> !decide (l.getD (i+1) 0<l.getD i 0)
theorem aDc {l:List Int} (h:∀ i,i+1<l.length→¬ l.getD (i+1) 0<l.getD i 0):M4 l=true:=by
 unfold M4;rw [aSr];intro i aq;have:=h i (by have:=aSj.1 aq;omega);simpa using this
def aPg {α:Type} (l:List α) (k:Nat):List α:=l.mapIdx λ i x=>if i<k∨l.length - k≤i then (l[l.length - 1 - i]?).getD x else x
end
end Go.Proofs.YtlikikpgmmkjbaaGreat
