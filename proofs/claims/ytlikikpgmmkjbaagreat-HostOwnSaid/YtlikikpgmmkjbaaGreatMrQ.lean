import Derived.Test.YtlikikpgmmkjbaaGreatGooI
import Derived.Deep.DeepCutAuto
set_option linter.unusedVariables false
set_option linter.unusedSimpArgs false
set_option maxRecDepth 100000
set_option maxHeartbeats 4000000
open Go.RowKit
namespace Go.Proofs.YtlikikpgmmkjbaaGreat
open Tryz
section
theorem aon:fa prog bd.rep 26 66 56:=fa.lK (z:=bd.zero) (k:=7) underlying26 bd.info rfl rfl (by decide) bd.iY
theorem aCI (k:Int):0≤aj.kW k∧aj.kW k≤12:=by unfold aj.kW;split<;>(try split)<;>omega
theorem aAC (k:Int):0≤aj.kb k∧aj.kb k≤20:=by unfold aj.kb;split<;>(try split)<;>omega
theorem ajw {k:Int}:(IN k != 0)= !cR k 1 2:=by
 unfold IN;by_cases γ:k=1
 ·subst γ;rfl
 ·by_cases aa:k=2
  ·subst aa;rfl
  ·rw [aUr γ,aUr aa,p4 (by omega)];rfl
theorem axw {W:aj} {d:ct} (bD:Good W) (h:(((((decide (d.aU<0) || decide ((W.aZ.length:Int)≤d.aU)) || IN d.what != 0) || decide (W.bg.getD d.aU.toNat 0<aj.kW d.what)) || decide (100≤(W.ao.length:Int))) || decide (1000000≤W.next))=false):
  0≤d.aU∧d.aU<(W.aZ.length:Int)∧cR d.what 1 2=true∧aj.kW d.what≤W.bg.getD d.aU.toNat 0∧W.ao.length<100∧W.next<1000000:=by
 simp only [aU8,aU1,ajw,aVX] at h;obtain ⟨⟨⟨⟨⟨γ,aa⟩,av⟩,aV⟩,bJ⟩,cg⟩:=h;exact ⟨by omega,by omega,av,by omega,by omega,by omega⟩
theorem ahn {W:aj} {d:ct} (bD:Good W) (h:(((((decide (d.aU<0) || decide ((W.aZ.length:Int)≤d.aU)) || IN d.what != 0) || decide (W.bg.getD d.aU.toNat 0<aj.kW d.what)) || decide (100≤(W.ao.length:Int))) || decide (1000000≤W.next))=true):W.r6 d=none:=by
 unfold aj.r6;rw [aUr];intro hc;simp only [aUp,aUO] at hc;obtain ⟨⟨⟨⟨c1,c2⟩,c3⟩,c4⟩,c5⟩:=hc;have c1:=kR c1;simp only [ajw,c2,aU9,aUO,aWH,aUY,aWr] at h;omega
theorem ahm {W:aj} {d:ct} (γ:0≤d.aU) (aa:d.aU<(W.aZ.length:Int)) (av:cR d.what 1 2=true) (aV:aj.kW d.what≤W.bg.getD d.aU.toNat 0) (bJ:W.ao.length<100) (cg:W.next<1000000):
  (cR d.aU 0 ((W.aZ.length:Int) - 1) && cR d.what 1 2 && decide (aj.kW d.what≤W.bg.getD d.aU.toNat 0) && decide (W.ao.length<100) && decide (W.next<1000000))=true:=by
 rw [o6 γ (by omega),av,aUL aV,aUL bJ,aUL cg];rfl
theorem aho {W:aj} {d:ct} (γ:0≤d.aU) (aa:d.aU<(W.aZ.length:Int)) (av:cR d.what 1 2=true) (aV:aj.kW d.what≤W.bg.getD d.aU.toNat 0) (bJ:W.ao.length<100) (cg:W.next<1000000) (h:(!(W.free (W.aZ.getD d.aU.toNat default)).isSome)=true):W.r6 d=none:=by
 unfold aj.r6;simp only [ahm γ aa av aV bJ cg,aVZ];rw [aVn,Option.isSome_eq_false_iff,Option.isNone_iff_eq_none] at h;rw [h]
theorem axv {W:aj} {d:ct} {c:ay} (γ:0≤d.aU) (aa:d.aU<(W.aZ.length:Int)) (av:cR d.what 1 2=true) (aV:aj.kW d.what≤W.bg.getD d.aU.toNat 0) (bJ:W.ao.length<100) (cg:W.next<1000000) (hc:(W.free (W.aZ.getD d.aU.toNat default)).getD ⟨0,0⟩=c) (h:(!(W.free (W.aZ.getD d.aU.toNat default)).isSome)=false):
  W.r6 d=some {W with ao:=W.ao++ [⟨W.next,d.aU,d.what,c,aj.kb d.what,0⟩],next:=W.next+1,bg:=W.bg.set d.aU.toNat (W.bg.getD d.aU.toNat 0 - aj.kW d.what)}:=by
 unfold aj.r6;simp only [ahm γ aa av aV bJ cg,aVZ];cases hf:W.free (W.aZ.getD d.aU.toNat default) with
 | none=>rw [hf] at h;cases h
 | some b_=>rw [hf] at hc;obtain rfl:b_=c:=hc;rfl
theorem axu {W:aj} {d:ct} (bD:Good W) (γ:0≤d.aU) (aa:d.aU<(W.aZ.length:Int)):(0≤(W.aZ.getD d.aU.toNat default).x∧(W.aZ.getD d.aU.toNat default).x≤100∧0≤(W.aZ.getD d.aU.toNat default).y∧(W.aZ.getD d.aU.toNat default).y≤100)∧d.aU.toNat<W.aZ.length:=by
 have bE:d.aU.toNat<W.aZ.length:=by omega
 have:=(bD.aZ _ _ (dH (u:=default) bE)).1;obtain ⟨i1,i2,i3,i4,i5,i6⟩:=aE.idx bD.field (aE.j_ this);obtain ⟨vk,Ow,TK,TL,_,_⟩:=aE.km bD.field;exact ⟨⟨by omega,by omega,by omega,by omega⟩,bE⟩
theorem avp {W:aj} {p c:ay} (hp:0≤p.x∧p.x≤100∧0≤p.y∧p.y≤100) (hc:(W.free p).getD ⟨0,0⟩=c): -1≤c.x∧c.x≤101∧ -1≤c.y∧c.y≤101:=by
 cases hf:W.free p with
 | none=>rw [hf] at hc;subst hc;decide
 | some q =>
  rw [hf] at hc;obtain rfl:q=c:=hc;have:=aXa hf;simp only [aj.around,aUD,aVI,aWr] at this;rcases this with rfl | rfl | rfl | rfl | rfl | rfl | rfl | rfl | rfl | rfl<;>(try dsimp only)<;>omega
theorem axs (d:ct) (w:World) (ax S:Nat) (a:aj.cq) (W:aj) (h:lV w ax S a W) (bD:Good W):
  Calls prog 140 #[.pointer (some ⟨S,0,none⟩), .agg #[.int .i64 d.kind, .int .i64 d.aU, .int .i64 d.spot.x, .int .i64 d.spot.y, .int .i64 d.what]] w (xl W (W.r6 d) w ax S a):=by
 have s7:=bD.sl;have jg:=h.low;have uD:ax≤w.heap.size:=by have:=h.low;have:=h.fB.lt;omega
 have im:=h.a_;have nb:=h.fB.lt;have bm:=h.fB;have aW:=h.own;have yk:=λ q I=>(aW.lt q I).2;have xx:∀ q∈bj.bV a,q=S→False:=λ q I Φ=>im (Φ ▸ I);refine cl (n:=126) func140 Z Z Z ?_;refine ai<|cI Z Z Z Z λ ku AP ky Nc dN=> ?_;have:=ky.size;have di:=(Mod.bK (S::bj.bV a) w).trans (Mod.bF ky);have Sw:=dN.lt;refine va Z<|ag<|ai<|J (au afd Z)<|J (ak Z (dN.one bf Z))<|ca VZ Z Z ((Yk d.what _).mono ?_);rintro e wK ⟨rfl,bo⟩;refine ⟨_,Z, ?_⟩;have:=bo.size;have kE:=di.trans (Mod.bF bo);refine vm Z<|J (ex Z Z)<|J (ex Z Z)<|al Z V0 Z Z λ Eg ap3 mC aNK lx=> ?_;have:=mC.size;have oI:=kE.trans (Mod.bF mC);have aC6:=lx.lt;refine st (new:= [.int .i64 (aj.kb d.what), .int .i64 (Jo d.what), .int .i64 (uG d.what), .int .i64 (aj.kW d.what)]) Z Z lx Z V1 Z Z Z λ JJ p9 lx=> ?_;have:=p9.size;have vl:=oI.md p9 (λ q I=> .inr (by have:=aUg.1 I;omega));refine va Z<|ag<|az<|az<| ?_;refine rd [(1,0),(5,0),(10,0),(23,0),(25,0),(27,0),(29,0),(37,0),(46,0)] [0,1,2,3,4,5,6,7,8,9,10,11,12,13,14,15,16,17,18,19,20,21,22,23,24,25,26,27,28,29,30,31,32,33,34,35,36,37,38,39,40,41,42,43,44,45,46,47,48] (by kernel_rfl) (by kernel_rfl) ?_;refine ar Z (λ _=>au y6 Z)<| ?_;have dN:=dN.later (τ bo mC);have dN:=dN.mod p9 aQ;refine bG Z (λ _ x=>ak Z ((dN.later x).one bf Z))<|ar Z (λ _=>blt Z Z)<|ar Z (λ _=>aM Z)<|a1 Z Z Z Z Z Z (λ hc _=>au y6 Z) Z<|cz Z Z Z Z Z Z (λ hc _ x=>ak (gt hc Z) ((dN.later x).one bf Z)) Z<|a1 Z Z Z Z Z Z (λ hc _=>aM Z) Z<|a1 Z Z Z Z Z Z (λ hc _=>b6 (gt hc Z)) Z<|a1 Z Z Z Z Z Z (λ hc _=>au nB (gt hc Z)) Z<|a1 Z Z Z Z Z Z (λ hc _=>au pS (gt hc Z)) Z<| ?_;have bm:=bm.later (τ ky (τ bo mC));have bm:=bm.mod p9 aQ;refine cz Z Z Z Z Z Z (λ hc _ x=>ak (gt hc Z) ((bm.later x).one sY Z)) Z<|a1 Z Z Z Z Z Z (λ hc _=>cj underlying25 (gt hc Z)) Z<|a1 Z Z Z Z Z Z (λ hc _=>j4 (gt hc Z) (gt hc Z)) Z<|ar Z (λ _=>fM Z Z Z Z)<|ar Z (λ _=>aM Z)<|a1 Z Z Z Z Z Z (λ hc _=>aM Z) Z<|a1 Z Z Z Z Z Z (λ hc _=>bne (gt hc Z) Z) Z<|ar Z (λ _=>fM Z Z Z Z)<|ar Z (λ _=>aM Z)<|a1 Z Z Z Z Z Z (λ hc _=>aM Z) Z<|a1 Z Z Z Z Z Z (λ hc _=>b6 (gt hc Z)) Z<|a1 Z Z Z Z Z Z (λ hc _=>au nB (gt hc Z)) Z<|a1 Z Z Z Z Z Z (λ hc _=>au vT (gt hc Z)) Z<|cz Z Z Z Z Z Z (λ hc _ x=>ak (gt hc Z) ((bm.later x).one gy Z)) Z<|a1 Z Z Z Z Z Z (λ hc _=>au y6 Z) Z<|cz Z Z Z Z Z Z (λ hc _ x=>ak (gt hc Z) ((dN.later x).one bf Z)) Z<| ?_;have aW:=aW.later (τ ky (τ bo mC));have aW:=aW.mod p9 (b' yk);refine a1 Z Z Z Z Z Z (λ hc _=>bY d.aU.toNat underlying22 cU (gt hc Z) (gt hc Z) (aW.S.has.bu (aX d.aU.toNat (by (try simp only [cH] at hc);omega))) (by (try simp only [cH] at hc);omega) (by (try simp only [cH] at hc);omega)) Z<|cz Z Z Z Z Z Z (λ hc _ x=>ak (gt hc Z) (κ.aK.fu gV (by rw [← (aW.later x).S.has.bu (aX d.aU.toNat (by (try simp only [cH] at hc);omega))];exact (aW.later x).S.has) (dH (l:=W.bg) (u:=0) (by (try simp only [cH] at hc);omega)) Z bf)) Z<|a1 Z Z Z Z Z Z (λ hc _=>au afe Z) Z<|cz Z Z Z Z Z Z (λ hc _ x=>ak (gt hc Z) ((lx.later x).one bf Z)) Z<|a1 Z Z Z Z Z Z (λ hc _=>blt (gt hc Z) (gt hc Z)) Z<|ar Z (λ _=>fM Z Z Z Z)<|ar Z (λ _=>aM Z)<|a1 Z Z Z Z Z Z (λ hc _=>aM Z) Z<|a1 Z Z Z Z Z Z (λ hc _=>b6 (gt hc Z)) Z<|a1 Z Z Z Z Z Z (λ hc _=>au nB (gt hc Z)) Z<|a1 Z Z Z Z Z Z (λ hc _=>au iO (gt hc Z)) Z<|cz Z Z Z Z Z Z (λ hc _ x=>ak (gt hc Z) ((bm.later x).one j7 Z)) Z<|a1 Z Z Z Z Z Z (λ hc _=>cj underlying26 (gt hc Z)) Z<|a1 Z Z Z Z Z Z (λ hc _=>j4 (gt hc Z) Z) Z<|ar Z (λ _=>fM Z Z Z Z)<|ar Z (λ _=>aM Z)<|a1 Z Z Z Z Z Z (λ hc _=>aM Z) Z<|a1 Z Z Z Z Z Z (λ hc _=>b6 (gt hc Z)) Z<|a1 Z Z Z Z Z Z (λ hc _=>au nB (gt hc Z)) Z<|a1 Z Z Z Z Z Z (λ hc _=>au Lg (gt hc Z)) Z<|cz Z Z Z Z Z Z (λ hc _ x=>ak (gt hc Z) ((bm.later x).one bf Z)) Z<|a1 Z Z Z Z Z Z (λ hc _=>j4 (gt hc Z) Z) Z<|ar Z (λ _=>fM Z Z Z Z)<|fn λ BR ep=> ?_;have:=ep.size;have lR:=vl.trans (Mod.bF ep);refine aT<| ?_;refine ee Z (λ xJ=> ?_) (λ xJ=> ?_)
 ·refine ai<|va Z<|ag<|rt<|bT<|bb (.tmp Z .nil)<| ?_;have bm:=bm.later ep;have aW:=aW.later ep;exact ⟨a,by rw [ahn bD xJ];rfl,by rw [ahn bD xJ];exact ⟨bm,aW,im,jg⟩,λ q I=> .inl I,lR⟩
 ·obtain ⟨γ,aa,av,aV,bJ,cg⟩:=axw bD xJ;obtain ⟨pX,bE⟩:=axu bD γ aa;have hh:=bD.bg _ _ (dH (u:=0) (l:=W.bg) (j:=d.aU.toNat) (by omega));obtain ⟨c,hc⟩:∃ c,(W.free (W.aZ.getD d.aU.toNat default)).getD ⟨0,0⟩=c:=⟨_,rfl⟩;have aMA:=aCI d.what;have aMR:=kR av;have s6:=bD.next;have hlen:=bD.eF;have Ir:=bD.ks;have aLG:=avp pX hc;refine bt<|az<| ?_;refine rd [(5,0),(7,0),(9,0),(10,0),(14,2),(15,3)] [0,1,2,3,4,5,6,7,8,9,10,11,12,13,14,15,16] (by kernel_rfl) (by kernel_rfl) ?_;refine ar Z (λ _=>aM Z)<|ar Z (λ _=>aM Z)<|ar Z (λ _=>b6 Z)<|ar Z (λ _=>au nB Z)<|ar Z (λ _=>au pS Z)<| ?_;have bm:=bm.later ep;refine bG Z (λ _ x=>ak Z ((bm.later x).one sY Z))<|ar Z (λ _=>au y6 Z)<| ?_;have dN:=dN.later ep;refine bG Z (λ _ x=>ak Z ((dN.later x).one bf Z))<| ?_;have aW:=aW.later ep;refine ar Z (λ _=>bY d.aU.toNat underlying25 bW Z Z (aW.B.has.bu (aX d.aU.toNat)) (by omega) (by omega))<|bG Z (λ _ x=>ak Z (κ.aK.hb Be (by rw [← (aW.later x).B.has.bu (aX d.aU.toNat)];exact (aW.later x).B.has) (dH (l:=W.aZ) (u:=default) (by omega)) cm bW))<|pT Z Z as8 Z (λ _ x=>avo (W.aZ.getD d.aU.toNat default) _ ax S a W (⟨(bm.later x),(aW.later x),im,jg⟩) bD pX) Z<|ar Z (λ _=>aM Z)<|ar Z (λ _=>ex Z Z)<|ar Z (λ _=>ex Z Z)<|fS Z Z Z λ aak wT Q hK=>al Z xC Z Z λ tG PO jN aAh tV=>hK _ _ ⟨τ wT jN, ?_⟩;have:=wT.size;have Ez:=lR.trans (Mod.bF wT);have:=jN.size;have gw:=Ez.trans (Mod.bF jN);have aDd:=tV.lt;refine en Z Z Z λ BU ho Q hK=>st Z Z (tV.later ho) Z bW Z Z Z λ wJ lh tV=>hK _ _ ?_;have:=ho.size;have k4:=gw.trans (Mod.bF ho);have:=lh.size;have ma:=k4.md lh (λ q I=> .inr (by have:=aUg.1 I;omega));refine ar Z (λ _=>fA Z)<|fn λ Tk ra=> ?_;have:=ra.size;have ri:=ma.trans (Mod.bF ra);refine aT<|az<|ai<|vm Z<|J (eF Z)<|ag<| ?_;refine ee Z (λ Dd=> ?_) (λ Dd=> ?_)
  ·refine ai<|va Z<|ag<|rt<|bT<|bb (.tmp Z .nil)<| ?_;have bm:=bm.later (τ wT (τ jN ho));have bm:=bm.mod lh aQ;have bm:=bm.later ra;have aW:=aW.later (τ wT (τ jN ho));have aW:=aW.mod lh (b' yk);have aW:=aW.later ra;exact ⟨a,by rw [aho γ aa av aV bJ cg Dd];rfl,by rw [aho γ aa av aV bJ cg Dd];exact ⟨bm,aW,im,jg⟩,λ q I=> .inl I,ri⟩
  ·refine bt<|az<| ?_;refine rd [(5,0),(10,0),(12,0),(14,0),(15,0),(17,0),(19,2),(20,3),(24,3)] [0,1,2,3,4,5,6,7,8,9,10,11,12,13,14,15,16,17,18,19,20,21,22,23,24] (by kernel_rfl) (by kernel_rfl) ?_;refine ar Z (λ _=>aM Z)<|ar Z (λ _=>aM Z)<|ar Z (λ _=>b6 Z)<|ar Z (λ _=>au nB Z)<|ar Z (λ _=>au iO Z)<| ?_;have bm:=bm.later (τ wT (τ jN ho));have bm:=bm.mod lh aQ;have bm:=bm.later ra;refine bG Z (λ _ x=>ak Z ((bm.later x).one j7 Z))<|ar Z (λ _=>aM Z)<|ar Z (λ _=>b6 Z)<|ar Z (λ _=>au nB Z)<|ar Z (λ _=>au Lg Z)<|bG Z (λ _ x=>ak Z ((bm.later x).one bf Z))<|ar Z (λ _=>au y6 Z)<| ?_;have dN:=dN.later (τ wT (τ jN ho));have dN:=dN.mod lh aQ;have dN:=dN.later ra;refine bG Z (λ _ x=>ak Z ((dN.later x).one bf Z))<|ar Z (λ _=>au afd Z)<|bG Z (λ _ x=>ak Z ((dN.later x).one bf Z))<| ?_;have tV:=tV.later ra;refine bG Z (λ _ x=>ak Z ((tV.later x).all cm bW))<|ar Z (λ _=>au as9 Z)<| ?_;have lx:=lx.later (τ ep (τ wT (τ jN ho)));have lx:=lx.mod lh aQ;have lx:=lx.later ra;refine bG Z (λ _ x=>ak Z ((lx.later x).one bf Z))<|rU (v:= .agg #[.int .i64 W.next, .int .i64 d.aU, .int .i64 d.what, .int .i64 ((((W.free (W.aZ.getD d.aU.toNat default)).getD ⟨0,0⟩)).x), .int .i64 ((((W.free (W.aZ.getD d.aU.toNat default)).getD ⟨0,0⟩)).y), .int .i64 (aj.kb d.what), .int .i64 0]) Z Z (λ _=>cM Z (by kernel_rfl)) Z<|fS Z Z Z λ Og jq Q hK=>c6 (e:= 66) (cs:= [.int .i64 W.next, .int .i64 d.aU, .int .i64 d.what, .int .i64 ((((W.free (W.aZ.getD d.aU.toNat default)).getD ⟨0,0⟩)).x), .int .i64 ((((W.free (W.aZ.getD d.aU.toNat default)).getD ⟨0,0⟩)).y), .int .i64 (aj.kb d.what), .int .i64 0]) Z (λ _=>by kernel_rfl) Z λ BV vF iD Yp w9=>hK _ _ ⟨τ jq iD, ?_⟩;have:=jq.size;have qs:=ri.trans (Mod.bF jq);have:=iD.size;have lT:=qs.trans (Mod.bF iD);have Zm:=w9.lt;have aW:=aW.later (τ wT (τ jN ho));have aW:=aW.mod lh (b' yk);have aW:=aW.later (τ ra (τ jq iD));refine en Z Z Z λ aam lq Q hK=>ap aon κ.dE (aW.later lq).T ((aN.gM (R:=bd.rep) (by_:=56) (q:=(⟨W.next,d.aU,d.what,c,aj.kb d.what,0⟩:bd)) w9 ⟨(by rw [← hc];rfl),bN.2 (by dsimp only;omega),bN.2 (by dsimp only;omega),bN.2 (by dsimp only;omega),bN.2 (by dsimp only;omega),bN.2 (by dsimp only;omega),bN.2 (by dsimp only;have:=aAC d.what;omega),bN.2 (by dsimp only;omega)⟩ (by decide)).keep lq) Z Z (by simp;omega) (by simp;omega) (by have:=lq.size;omega) Z λ Oi He qD kT yU Fw aBy=>hK _ _ ?_;have:=lq.size;have G5:=lT.trans (Mod.bF lq);have aW:=aW.later lq;have bm:=bm.later (τ jq (τ iD lq));have:=kT.size;have yx:=G5.md kT (λ q I=> .inl (aUB _ (qG I)));have n4:=aW.swapT kT yU Fw;have Qc:∀ q∈bj.bV {a with T:=He,t:=qD},q=S→False:=λ q I Φ=>(afV (ax:=ax) (w:=w) (W:=W) I).elim (λ h=>xx q h Φ) (λ h=>(Fw q h).elim (λ aa=>xx q (qG aa) Φ) (λ aa=>by omega));have ar5:∀ q∈κ.ae a.T,q=S→False:=λ q I Φ=>by (exact xx q (qG I) Φ)
   have bm:=bm.mod kT (λ I=>ar5 _ I rfl);have tD:=λ q I=>(n4.lt q I).2;refine ar Z (λ _=>b6 Z)<|ar Z (λ _=>au nB Z)<|ar Z (λ _=>au iO Z)<|en Z Z Z λ Ol tN Q hK=>st (new:= [.int .i64 W.field.wide, .int .i64 W.field.high, .slice a.P W.field.aY.length a.p, .slice a.B W.aZ.length a.b, .slice a.S W.bg.length a.s, .slice a.M W.bs.length a.m, .slice He ((W.ao++ [(⟨W.next,d.aU,d.what,c,aj.kb d.what,0⟩:bd)]).length) qD, .int .i64 W.next, .int .i64 W.now]) Z Z (bm.later tN) Z HY Z Z Z λ JS zA bm=>hK _ _ ?_;have:=tN.size;have vt:=yx.trans (Mod.bF tN);have:=zA.size;have Cg:=vt.md zA (λ q I=> .inl (by rw [aUg.1 I];exact aUH));refine fn λ BW h2=> ?_;have:=h2.size;have oK:=Cg.trans (Mod.bF h2);refine aT<|ai<|vm Z<|J (b6 Z)<|J (au nB Z)<|J (au Lg Z)<| ?_;have bm:=bm.later h2;refine J (ak Z (bm.one bf Z))<|J (bad Z Z (bH (by omega)))<|J (b6 Z)<|J (au nB Z)<|J (au Lg Z)<|st (new:= [.int .i64 W.field.wide, .int .i64 W.field.high, .slice a.P W.field.aY.length a.p, .slice a.B W.aZ.length a.b, .slice a.S W.bg.length a.s, .slice a.M W.bs.length a.m, .slice He ((W.ao++ [(⟨W.next,d.aU,d.what,c,aj.kb d.what,0⟩:bd)]).length) qD, .int .i64 (W.next+1), .int .i64 W.now]) Z Z bm Z cU Z Z Z λ JT ir bm=> ?_;have:=ir.size;have pj:=oK.md ir (λ q I=> .inl (by rw [aUg.1 I];exact aUH));refine ag<|az<| ?_;refine rd [(4,0),(6,0),(8,0),(10,0),(13,3)] [0,1,2,3,4,5,6,7,8,9,10,11,12,13] (by kernel_rfl) (by kernel_rfl) ?_;refine ar Z (λ _=>aM Z)<|ar Z (λ _=>b6 Z)<|ar Z (λ _=>au nB Z)<|ar Z (λ _=>au vT Z)<|bG Z (λ _ x=>ak Z ((bm.later x).one gy Z))<|ar Z (λ _=>au y6 Z)<| ?_;have dN:=dN.later (τ jq (τ iD lq));have VB:∀ q∈κ.ae a.T,q=AP→False:=λ q I Φ=>by (have:=yk q (qG I);omega)
   have dN:=dN.mod kT (λ I=>VB _ I rfl);have dN:=dN.later tN;have dN:=dN.mod zA aQ;have dN:=dN.later h2;have dN:=dN.mod ir aQ;refine bG Z (λ _ x=>ak Z ((dN.later x).one bf Z))<| ?_;have n4:=n4.later tN;have n4:=n4.mod zA (λ q I h=>by have Φ:=aUg.1 h;exfalso;(exact Qc q I Φ));have n4:=n4.later h2;have n4:=n4.mod ir (λ q I h=>by have Φ:=aUg.1 h;exfalso;(exact Qc q I Φ));refine ar Z (λ _=>bY d.aU.toNat underlying22 cU Z Z (n4.S.has.bu (aX d.aU.toNat (by show d.aU.toNat<W.bg.length;omega))) (by omega) (by show d.aU.toNat<W.bg.length;omega))<|bG Z (λ _ x=>ak Z (κ.aK.fu gV (by rw [← (n4.later x).S.has.bu (aX d.aU.toNat (by show d.aU.toNat<W.bg.length;omega))];exact (n4.later x).S.has) (dH (l:=W.bg) (u:=0) (by show d.aU.toNat<W.bg.length;omega)) Z bf))<|ar Z (λ _=>au afe Z)<| ?_;have lx:=lx.later (τ jq (τ iD lq));have ar7:∀ q∈κ.ae a.T,q=ap3→False:=λ q I Φ=>by (have:=yk q (qG I);omega)
   have lx:=lx.mod kT (λ I=>ar7 _ I rfl);have lx:=lx.later tN;have lx:=lx.mod zA aQ;have lx:=lx.later h2;have lx:=lx.mod ir aQ;refine bG Z (λ _ x=>ak Z ((lx.later x).one bf Z))<|ar Z (λ _=>mi Z Z (bH (by omega)))<|ar Z (λ _=>bY d.aU.toNat underlying22 cU Z Z (n4.S.has.bu (aX d.aU.toNat (by show d.aU.toNat<W.bg.length;omega))) (by omega) (by show d.aU.toNat<W.bg.length;omega))<|en Z Z Z λ am0 qo Q hK=>so (q':=W.bg.getD d.aU.toNat 0 - aj.kW d.what) (j:=0) (i:=d.aU.toNat) (n4.later qo).S κ.dE (dH (u:=0) (l:=W.bg) (by omega)) Z Z Z Z (λ _ cs h=>by obtain rfl:=gV h;exact ⟨rfl,bN.2 (by omega)⟩) Z Z cU λ aas uX ao7=>hK _ _ ?_;have:=qo.size;have OL:=pj.trans (Mod.bF qo);have n4:=n4.later qo;have bm:=bm.later qo;have:=uX.size;have G8:=OL.md uX (λ q I=> .inl (aUB _ (C9 (a:=a) I)));have EO:=n4.alJ uX ao7;have ar8:∀ q∈κ.ae a.S,q=S→False:=λ q I Φ=>by (exact Qc q (C9 I) Φ)
   have bm:=bm.mod uX (λ I=>ar8 _ I rfl);have aFz:=λ q I=>(EO.lt q I).2;refine fn λ On ke=> ?_;have:=ke.size;have rj:=G8.trans (Mod.bF ke);refine aT<|ai<|va Z<|ag<|rt<|bb (.tmp Z .nil)<| ?_;have bm:=bm.later ke;have EO:=EO.later ke;rw [axv γ aa av aV bJ cg hc Dd];exact ⟨{a with T:=He,t:=qD},Z,⟨by simpa [aj.cells] using bm,EO.alI rfl rfl rfl rfl rfl ⟨EO.nums.1,EO.nums.2.1,bN.2 (by show -9223372036854775808≤W.next+1∧W.next+1≤9223372036854775807;omega),EO.nums.2.2.2⟩,λ I=>Qc _ I rfl,jg⟩,λ q I=>(afV (ax:=ax) (w:=w) (W:=W) I).elim .inl (λ h=>(Fw q h).elim (λ h=> .inl (qG h)) (λ h=> .inr (by omega))),rj⟩
end
section
theorem aCf (a:aj.cq) (W:aj) (w:World) (bQ:aj.Has w a W):
    Calls prog 99 #[.agg (aj.cells a W).toArray] w λ e w'=>∃ a':aj.cq,e= .returned (.agg (aj.cells a' W).toArray)∧bj w' w.heap.size a' W∧Below w.heap.size w w':=by
  obtain ⟨e8,gp,gq,fG,fc,ft,fV,gB,fZ,fJ⟩:=a;show Calls _ _ #[.agg #[.int .i64 W.field.wide, .int .i64 W.field.high, .slice e8 W.field.aY.length ft, .slice gp W.aZ.length fV, .slice gq W.bg.length gB, .slice fG W.bs.length fZ, .slice fc W.ao.length fJ, .int .i64 W.next, .int .i64 W.now]] _ _;have cK:=lA w (.cells #[.int .i64 W.field.wide, .int .i64 W.field.high, .slice e8 W.field.aY.length ft, .slice gp W.aZ.length fV, .slice gq W.bg.length gB, .slice fG W.bs.length fZ, .slice fc W.ao.length fJ, .int .i64 W.next, .int .i64 W.now] 28);have hA:=aN.new w [.int .i64 W.field.wide, .int .i64 W.field.high, .slice e8 W.field.aY.length ft, .slice gp W.aZ.length fV, .slice gq W.bg.length gB, .slice fG W.bs.length fZ, .slice fc W.ao.length fJ, .int .i64 W.next, .int .i64 W.now] 28 (0,0);obtain ⟨w0,jx⟩:∃ w0,Hid (w.alloc (.cells #[.int .i64 W.field.wide, .int .i64 W.field.high, .slice e8 W.field.aY.length ft, .slice gp W.aZ.length fV, .slice gq W.bg.length gB, .slice fG W.bs.length fZ, .slice fc W.ao.length fJ, .int .i64 W.next, .int .i64 W.now] 28)=w0):=⟨_,aUl rfl⟩;rw [jx.out] at cK;have ju:Hid (aN w0 w.heap.size [.int .i64 W.field.wide, .int .i64 W.field.high, .slice e8 W.field.aY.length ft, .slice gp W.aZ.length fV, .slice gq W.bg.length gB, .slice fG W.bs.length fZ, .slice fc W.ao.length fJ, .int .i64 W.next, .int .i64 W.now] 28 (0,0)):=by rw [← jx.out];exact hA
  have X2:w0.heap.size=w.heap.size+1:=by rw [← jx.out];simp
  have Xh:=lA w0 (.cells #[.int .i64 0, .int .i64 0, .slice none 0 0, .slice none 0 0, .slice none 0 0, .slice none 0 0, .slice none 0 0, .int .i64 0, .int .i64 0] 28);have hR:=aN.new w0 [.int .i64 0, .int .i64 0, .slice none 0 0, .slice none 0 0, .slice none 0 0, .slice none 0 0, .slice none 0 0, .int .i64 0, .int .i64 0] 28 (0,0);rw [X2] at hR;obtain ⟨B1,Uu⟩:∃ B1,Hid (w0.alloc (.cells #[.int .i64 0, .int .i64 0, .slice none 0 0, .slice none 0 0, .slice none 0 0, .slice none 0 0, .slice none 0 0, .int .i64 0, .int .i64 0] 28)=B1):=⟨_,aUl rfl⟩;rw [Uu.out] at Xh;have cF:Hid (aN B1 (w.heap.size+1) [.int .i64 0, .int .i64 0, .slice none 0 0, .slice none 0 0, .slice none 0 0, .slice none 0 0, .slice none 0 0, .int .i64 0, .int .i64 0] 28 (0,0)):=by rw [← Uu.out];exact hR
  have ju:=aUl (ju.out.later Xh);have cK:=cK.trans (Xh.mono cK.size);have agI:=bQ.keep cK;have AA:=aUl (λ V (h:Below B1.heap.size B1 V)=>vK e8 ft W.field.aY V (agI.P.keep h));have aJ:=aUl (λ V (h:Below w.heap.size w V)=>Qa gp fV W.aZ V (bQ.B.keep h));have fw:=aUl (λ V (h:Below w.heap.size w V)=>vK gq gB W.bg V (bQ.S.keep h));have k7:=aUl (λ V (h:Below w.heap.size w V)=>vK fG fZ W.bs V (bQ.M.keep h));have ru:=aUl (λ V (h:Below w.heap.size w V)=>K2 fc fJ W.ao V (bQ.T.keep h));have fk:=aUl bQ.nums;clear bQ agI hA;go_enter func99,ntmps99;go_wp2_with fail
  rw [jx.out,Uu.out];go_wp2_with fail
  refine (AA.out _ (aUN _ _)).mono ?_;rintro e aP ⟨e9,ow,rfl,RD,_,cV⟩;have kn:=ju.out.later cV;have aMd:=kn.lt;obtain ⟨b3,c1,c2,c3,c4,c5,dQ,eb,eT⟩:=Ek kn;have f2:=kn.free 2 (.inr (aU6 _));have bz:Below w.heap.size w (aP.setCell ⟨w.heap.size,2,none⟩ (.slice e9 W.field.aY.length ow)):=(cK.trans (cV.mono cK.size)).setCell (p:=⟨w.heap.size,2,none⟩) (aUu _) _;have WU:=(cF.out.later cV).other (show w.heap.size+1≠w.heap.size by omega) 2 (.slice e9 W.field.aY.length ow);have QY:=kn.set 2 (.slice e9 W.field.aY.length ow);have XS:w.heap.size∉κ.ae e9:=Ja RD (by have:=ju.out.lt;omega);have ahZ:w.heap.size+1∉κ.ae e9:=Ja RD (by have:=cF.out.lt;omega);have LK:=RD.other (p:=⟨w.heap.size,2,none⟩) XS (.slice e9 W.field.aY.length ow);obtain ⟨cE,ab9⟩:∃ cE,Hid (aP.setCell ⟨w.heap.size,2,none⟩ (.slice e9 W.field.aY.length ow)=cE):=⟨_,aUl rfl⟩;rw [ab9.out] at bz QY LK WU;have LK:=LK.down (show w.heap.size≤_ from cK.size);go_wp2_with fail
  rw [ab9.out];go_wp2_with fail
  clear b3 c1 c2 c3 c4 c5 dQ eb eT f2 RD kn cV;obtain ⟨b3,c1,c2,c3,c4,c5,dQ,eb,eT⟩:=Ek QY;have xa:=aUl QY;have ab5:=aUl LK;have Pz:Hid (w.heap.size∉κ.ae e9):=aUl XS;have apg:Hid (w.heap.size+1∉κ.ae e9):=aUl ahZ;have ab7:=aUl WU;have aML:=ab7.out.lt;clear QY LK WU XS ahZ;have Df:=aUN cE.heap.size cE;have aMM:=xa.out.lt
  go_cut [9] (λ _ l8=>acd w l8 e9 ow W fG fZ fc fJ cE.heap.size)
  case first =>
   go_region_law (first
    | (refine SV rfl 101 _ func101 (by kernel_rfl) (by kernel_rfl) _ _ rfl #[.slice gp W.aZ.length fV] (by simp [Act.eval,Act.put]) ?_
       refine (aJ.out _ bz.drew).mono ?_;rintro e w3 ⟨cu,mP,rfl,Mq,_,dV⟩;have qN:Below cE.heap.size cE w3:=adr Df dV;have c4:=cell_later qN c4;refine ⟨_,Z, ?_⟩)
    | (refine SV rfl 27 _ func27 (by kernel_rfl) (by kernel_rfl) _ _ rfl #[.slice gq W.bg.length gB] (by simp [Act.eval,Act.put]) ?_
       refine (fw.out _ (bz.trans (qN.mono bz.size))).mono ?_;rintro e tF ⟨e_,nc,rfl,Mr,_,dI⟩;have rZ:Below cE.heap.size cE tF:=oa qN dI;obtain ⟨d0,d1,d2,d3,d4,d5,d6,d7,d8⟩:=Ek (xa.out.later rZ);have f3:=(xa.out.later rZ).free 3 (.inr (aU6 _));have f4:=(xa.out.later rZ).free 4 (.inr (aU6 _));refine ⟨_,Z, ?_⟩))
   all_goals
    have aLB:w.heap.size<tF.heap.size:=by have:=rZ.size;omega
    have agD:=ab7.out.later rZ;have agk:=xa.out.later rZ;have agB:=ab5.out.later rZ;have agn:=Mq.later dI;have agQ:=bz.trans (rZ.mono bz.size);have Ia:=(agk.set 3 (.slice cu W.aZ.length mP)).set 4 (.slice e_ W.bg.length nc);have Ig:=(agD.other (show w.heap.size+1≠w.heap.size by omega) 3 (.slice cu W.aZ.length mP)).other (show w.heap.size+1≠w.heap.size by omega) 4 (.slice e_ W.bg.length nc);have Ie:=(agB.other (p:=⟨w.heap.size,3,none⟩) Pz.out (.slice cu W.aZ.length mP)).other (p:=⟨w.heap.size,4,none⟩) Pz.out (.slice e_ W.bg.length nc);have A_:=(agn.other (p:=⟨w.heap.size,3,none⟩) (Ja Mq (by show w.heap.size<cE.heap.size;omega)) (.slice cu W.aZ.length mP)).other (p:=⟨w.heap.size,4,none⟩) (Ja Mq (by show w.heap.size<cE.heap.size;omega)) (.slice e_ W.bg.length nc);have Ii:=(Mr.other (p:=⟨w.heap.size,3,none⟩) (Ja Mr (by have:=qN.size;show w.heap.size<w3.heap.size;omega)) (.slice cu W.aZ.length mP)).other (p:=⟨w.heap.size,4,none⟩) (Ja Mr (by have:=qN.size;show w.heap.size<w3.heap.size;omega)) (.slice e_ W.bg.length nc);have om:Below w.heap.size w ((tF.setCell ⟨w.heap.size,3,none⟩ (.slice cu W.aZ.length mP)).setCell ⟨w.heap.size,4,none⟩ (.slice e_ W.bg.length nc)):=(agQ.setCell (p:=⟨w.heap.size,3,none⟩) (aUu _) _).setCell (p:=⟨w.heap.size,4,none⟩) (aUu _) _;have b0:Hid (acd w ((tF.setCell ⟨w.heap.size,3,none⟩ (.slice cu W.aZ.length mP)).setCell ⟨w.heap.size,4,none⟩ (.slice e_ W.bg.length nc)) e9 ow W fG fZ fc fJ cE.heap.size):=aUl ⟨cu,mP,e_,nc,w3.heap.size,tF.heap.size,Ia,Ig,Ie,A_,Ii,Mq.lt,Mr.lt,om,qN.size,dI.size,by simp [World.setCell]⟩;clear Ia Ig Ie A_ Ii om Mq Mr agD agk agB agn agQ qN rZ dV dI b3 c1 c2 c3 c4 c5 dQ eb eT d0 d1 d2 d3 d4 d5 d6 d7 d8 f3 f4 Df;go_wp2_with fail
    go_meet
    exact b0.out
  case rest =>
    obtain ⟨cu,mP,e_,nc,qb,sq,Ia,Ig,Ie,A_,Ii,SA,ale,om,pa,l4,nP⟩:=hcut;obtain ⟨q6,aoP⟩:∃ q6:World,Hid (q6=wc):=⟨wc,aUl rfl⟩;rw [← aoP.out] at Ia Ig Ie A_ Ii om nP ⊢;have ht:=aUl ab5.out.lt;have gK:=aUl SA;have fz:=aUl ale;have aoJ:=aUl Ie;have aos:=aUl A_;have aoN:=aUl Ii;have aoK:=aUl Ig;have At:=aUl Ia;clear Ia Ig Ie A_ Ii SA ale b3 c1 c2 c3 c4 c5 dQ eb eT Df;obtain ⟨b3,c1,c2,c3,c4,c5,dQ,eb,eT⟩:=Ek At.out;have Df:=aUN q6.heap.size q6;go_wp2_with fail
    go_region_law (first
      | (refine SV rfl 27 _ func27 (by kernel_rfl) (by kernel_rfl) _ _ rfl #[.slice fG W.bs.length fZ] (by simp [Act.eval,Act.put]) ?_
         refine (k7.out _ om.drew).mono ?_;rintro e Tg ⟨nK,o8,rfl,IJ,_,Im⟩;have LY:Below q6.heap.size q6 Tg:=adr Df Im;have dQ:=cell_later LY dQ;refine ⟨_,Z, ?_⟩)
      | (refine SV rfl 26 _ func26 (by kernel_rfl) (by kernel_rfl) _ _ rfl #[.slice fc W.ao.length fJ] (by simp [Act.eval,Act.put]) ?_
         refine (ru.out _ (om.trans (LY.mono om.size))).mono ?_;rintro e aac ⟨nU,pb,rfl,IK,_,FH⟩;have xL:Below q6.heap.size q6 aac:=oa LY FH;obtain ⟨d0,d1,d2,d3,d4,d5,d6,d7,d8⟩:=Ek (At.out.later xL);have f5:=(At.out.later xL).free 5 (.inr (aU6 _));have f6:=(At.out.later xL).free 6 (.inr (aU6 _));refine ⟨_,Z, ?_⟩))
    all_goals
      have aMZ:=xL.size;have azm:=LY.size;have awY:=om.trans (xL.mono om.size);have dg:w.heap.size<Tg.heap.size:=by omega
      have eH:w.heap.size<q6.heap.size:=by omega
      have WK:=((At.out.later xL).set 5 (.slice nK W.bs.length o8)).set 6 (.slice nU W.ao.length pb);have WV:=((aoK.out.later xL).other (show w.heap.size+1≠w.heap.size by omega) 5 (.slice nK W.bs.length o8)).other (show w.heap.size+1≠w.heap.size by omega) 6 (.slice nU W.ao.length pb);have WT:=((aoJ.out.later xL).other (p:=⟨w.heap.size,5,none⟩) Pz.out (.slice nK W.bs.length o8)).other (p:=⟨w.heap.size,6,none⟩) Pz.out (.slice nU W.ao.length pb);have WM:=((aos.out.later xL).other (p:=⟨w.heap.size,5,none⟩) (λ h=>by have:=(gK.out _ h).1;simp at this;omega) (.slice nK W.bs.length o8)).other (p:=⟨w.heap.size,6,none⟩) (λ h=>by have:=(gK.out _ h).1;simp at this;omega) (.slice nU W.ao.length pb);have LL:=((aoN.out.later xL).other (p:=⟨w.heap.size,5,none⟩) (λ h=>by have:=(fz.out _ h).1;simp at this;omega) (.slice nK W.bs.length o8)).other (p:=⟨w.heap.size,6,none⟩) (λ h=>by have:=(fz.out _ h).1;simp at this;omega) (.slice nU W.ao.length pb);have WS:=((IJ.later FH).other (p:=⟨w.heap.size,5,none⟩) (λ h=>by have:=(IJ.lt _ h).1;simp at this;omega) (.slice nK W.bs.length o8)).other (p:=⟨w.heap.size,6,none⟩) (λ h=>by have:=(IJ.lt _ h).1;simp at this;omega) (.slice nU W.ao.length pb);have WW:=(IK.other (p:=⟨w.heap.size,5,none⟩) (λ h=>by have:=(IK.lt _ h).1;simp at this;omega) (.slice nK W.bs.length o8)).other (p:=⟨w.heap.size,6,none⟩) (λ h=>by have:=(IK.lt _ h).1;simp at this;omega) (.slice nU W.ao.length pb);have Io:Below w.heap.size w ((aac.setCell ⟨w.heap.size,5,none⟩ (.slice nK W.bs.length o8)).setCell ⟨w.heap.size,6,none⟩ (.slice nU W.ao.length pb)):=(awY.setCell (p:=⟨w.heap.size,5,none⟩) (aUu _) _).setCell (p:=⟨w.heap.size,6,none⟩) (aUu _) _;have iQ:(κ.ae e9++κ.ae cu++κ.ae e_++κ.ae nK++κ.ae nU).Nodup:=by
        have γ:=PI (m:=qb) ⟨vG e9,λ g aS=>(ht.out g aS).2⟩ (vG cu) gK.out pa;have aa:=PI γ (vG e_) fz.out l4;have av:=PI (n:=q6.heap.size) (m:=Tg.heap.size) ⟨aa.1,λ g aS=>by have:=aa.2 g aS;omega⟩ (vG nK) IJ.lt azm;exact (PI av (vG nU) IK.lt (by have:=FH.size;omega)).1
      obtain ⟨Ob,aoQ⟩:∃ Ob,Hid ((aac.setCell ⟨w.heap.size,5,none⟩ (.slice nK W.bs.length o8)).setCell ⟨w.heap.size,6,none⟩ (.slice nU W.ao.length pb)=Ob):=⟨_,aUl rfl⟩;rw [aoQ.out] at Io WK WV WT WM LL WS WW ⊢;have aoB:=aUl (show bj Ob w.heap.size ⟨e9,cu,e_,nK,nU,ow,mP,nc,o8,pb⟩ W from ⟨WT,WM.down (by show w.heap.size≤cE.heap.size;omega),LL.down (by omega),WS.down (by show w.heap.size≤q6.heap.size;omega),WW.down (by omega),iQ,fk.out⟩);have aoF:Hid (w.heap.size+1∉bj.bV ⟨e9,cu,e_,nK,nU,ow,mP,nc,o8,pb⟩):=aUl (λ h=>by
        unfold bj.bV at h;simp only [aUy] at h;rcases h with (((h | h) | h) | h) | h
        · exact apg.out h
        · have:=(gK.out _ h).1;omega
        · have:=(fz.out _ h).1;omega
        · have:=(IJ.lt _ h).1;(try simp at this);omega
        · have:=(IK.lt _ h).1;(try simp at this);omega)
      have Uq:=aUl WV;have aor:Hid (aN Ob w.heap.size [.int .i64 W.field.wide, .int .i64 W.field.high, .slice e9 W.field.aY.length ow, .slice cu W.aZ.length mP, .slice e_ W.bg.length nc, .slice nK W.bs.length o8, .slice nU W.ao.length pb, .int .i64 W.next, .int .i64 W.now] 28 (0,0)):=aUl WK;clear WK WV WT WM LL WS WW iQ IJ IK FH Im xL LY b3 c1 c2 c3 c4 c5 dQ eb eT d0 d1 d2 d3 d4 d5 d6 d7 d8 f5 f6;obtain ⟨b3,c1,c2,c3,c4,c5,dQ,eb,eT⟩:=Ek aor.out;obtain ⟨e0,a8,bl,cZ,jP,Le,Lf,ae9,afa⟩:=Ek Uq.out;have aC:=λ j=>Uq.out.free j (.inr (aU6 _));have aLb:=aC 0;have aLc:=aC 1;have aLd:=aC 2;have aLe:=aC 3;have aLf:=aC 4;have aLg:=aC 5;have aLh:=aC 6;have aLi:=aC 7;have aLj:=aC 8;clear aC;go_wp2_with fail
      obtain ⟨aad,aoR⟩:∃ aad,Hid ((((((((((Ob.setCell ⟨w.heap.size+1,0,none⟩ (.int .i64 W.field.wide)).setCell ⟨w.heap.size+1,1,none⟩ (.int .i64 W.field.high)).setCell ⟨w.heap.size+1,2,none⟩ (.slice e9 W.field.aY.length ow)).setCell ⟨w.heap.size+1,3,none⟩ (.slice cu W.aZ.length mP)).setCell ⟨w.heap.size+1,4,none⟩ (.slice e_ W.bg.length nc)).setCell ⟨w.heap.size+1,5,none⟩ (.slice nK W.bs.length o8)).setCell ⟨w.heap.size+1,6,none⟩ (.slice nU W.ao.length pb)).setCell ⟨w.heap.size+1,7,none⟩ (.int .i64 W.next)).setCell ⟨w.heap.size+1,8,none⟩ (.int .i64 W.now))=aad):=⟨_,aUl rfl⟩;have agE:=aBC Uq.out (.int .i64 W.field.wide) (.int .i64 W.field.high) (.slice e9 W.field.aY.length ow) (.slice cu W.aZ.length mP) (.slice e_ W.bg.length nc) (.slice nK W.bs.length o8) (.slice nU W.ao.length pb) (.int .i64 W.next) (.int .i64 W.now);have agA:=aoB.out.nine aoF.out (.int .i64 W.field.wide) (.int .i64 W.field.high) (.slice e9 W.field.aY.length ow) (.slice cu W.aZ.length mP) (.slice e_ W.bg.length nc) (.slice nK W.bs.length o8) (.slice nU W.ao.length pb) (.int .i64 W.next) (.int .i64 W.now);have Rb:=aqk Io (show w.heap.size≤w.heap.size+1 by omega) (.int .i64 W.field.wide) (.int .i64 W.field.high) (.slice e9 W.field.aY.length ow) (.slice cu W.aZ.length mP) (.slice e_ W.bg.length nc) (.slice nK W.bs.length o8) (.slice nU W.ao.length pb) (.int .i64 W.next) (.int .i64 W.now);rw [aoR.out] at agE agA Rb ⊢;obtain ⟨v0,v1,v2,v3,v4,v5,v6,aFK,aFL⟩:=Ek agE;refine aYj (v:= .agg #[.int .i64 W.field.wide, .int .i64 W.field.high, .slice e9 W.field.aY.length ow, .slice cu W.aZ.length mP, .slice e_ W.bg.length nc, .slice nK W.bs.length o8, .slice nU W.ao.length pb, .int .i64 W.next, .int .i64 W.now]) ?_ Z ⟨⟨e9,cu,e_,nK,nU,ow,mP,nc,o8,pb⟩,Z,agA,Rb⟩;simp [results,results99,go_sem,v0,v1,v2,v3,v4,v5,v6,aFK,aFL]
end
section
theorem aoo:fa prog zJ 58 4 1:=fa.lK (z:= .bool false) (k:=1) underlying58 (by kernel_rfl) rfl rfl (by decide) (λ j u h=>alf j u h)
theorem aj.aeS {W:aj} {d:ct} (h:d.kind=1):W.lD d=W.nN d:=by unfold aj.lD;rw [aUz h]
theorem aj.aeQ {W:aj} {d:ct} (h:d.kind=2):W.lD d=W.drop d:=by unfold aj.lD;rw [aUr (by omega),aUz h]
theorem aj.aeR {W:aj} {d:ct} (h:d.kind=3):W.lD d=W.r6 d:=by unfold aj.lD;rw [aUr (by omega),aUr (by omega),aUz h]
theorem aj.aeT {W:aj} {d:ct} (γ:¬ d.kind=1) (aa:¬ d.kind=2) (av:¬ d.kind=3):W.lD d=none:=by unfold aj.lD;rw [aUr γ,aUr aa,aUr av]
theorem VD {W:aj} {V:Option aj} {w aP:World} {ax S:Nat} {a:aj.cq} {f:FuncId} {args:Array Value} (h:Calls prog f args aP (xl W V aP ax S a)) (x:Ext w aP):Calls prog f args aP (xl W V w ax S a):=
 h.mono λ e cE ⟨a2,γ,aa,av,aV⟩=>⟨a2,γ,aa,λ q I=>(av q I).imp id λ h=>aUP x.size h,(Mod.bF x).trans aV⟩
theorem aBg (d:ct) (w:World) (ax S:Nat) (a:aj.cq) (W:aj) (h:lV w ax S a W) (bD:Good W):Calls prog 138 #[.pointer (some ⟨S,0,none⟩), .agg #[.int .i64 d.kind, .int .i64 d.aU, .int .i64 d.spot.x, .int .i64 d.spot.y, .int .i64 d.what]] w (xl W (W.nN d) w ax S a):=by
 cases hf:W.ao.findIdx? (hE d.aU) with
 | none=>exact aBf d w ax S a W h bD hf
 | some k=>obtain ⟨t,aF,_⟩:=H4 hf;exact aBe d w ax S a W h bD k t hf aF
theorem asP (d:ct) (w:World) (ax S:Nat) (a:aj.cq) (W:aj) (h:lV w ax S a W) (bD:Good W):Calls prog 139 #[.pointer (some ⟨S,0,none⟩), .agg #[.int .i64 d.kind, .int .i64 d.aU, .int .i64 d.spot.x, .int .i64 d.spot.y, .int .i64 d.what]] w (xl W (W.drop d) w ax S a):=by
 cases hf:W.ao.findIdx? (hE d.aU) with
 | none=>exact asO d w ax S a W h bD hf
 | some k=>obtain ⟨t,aF,_⟩:=H4 hf;exact drop2 d w ax S a W h bD k t hf aF
theorem axt (d:ct) (w:World) (ax S:Nat) (a:aj.cq) (W:aj) (h:lV w ax S a W) (bD:Good W):Calls prog 140 #[.pointer (some ⟨S,0,none⟩), .agg #[.int .i64 d.kind, .int .i64 d.aU, .int .i64 d.spot.x, .int .i64 d.spot.y, .int .i64 d.what]] w (xl W (W.r6 d) w ax S a):=axs d w ax S a W h bD
theorem lV.mod {w aP:World} {ax S:Nat} {a:aj.cq} {W:aj} {T:List Nat} (h:lV w ax S a W) (m:Mod T w aP) (hd:∀ q∈T,q≠S∧q∉bj.bV a):lV aP ax S a W :=
 ⟨h.fB.mod m λ I=>(hd _ I).1 rfl,h.own.mod m λ q I b7=>(hd q b7).2 I,h.a_,h.low⟩
def aj.rM (W:aj) (l:List ct):Int:=if W.bq≠0 then W.bq else if 200<l.length then 2 else 0
def aj.iL (W:aj) (l:List ct):aj:=if W.rM l=0 then (W.h8 l).1 else aj.zero
def aj.vQ (W:aj) (l:List ct):List Bool:=if W.rM l=0 then (W.h8 l).2 else []
def aoa (W:aj) (l:List ct) (w:World) (e:Ending) (w':World):Prop :=
 ∃ a' A c,e= .returned (.tuple #[.agg (aj.cells a' (W.iL l)).toArray, .slice A (W.vQ l).length c, .int .i64 (W.rM l)])∧bj w' w.heap.size a' (W.iL l)∧zJ.aD 4 1 w' w.heap.size (κ.ae A) A c (W.vQ l)∧(∀ q∈κ.ae A,q∉bj.bV a')∧Ext w w'
theorem asE {W:aj} {l:List ct} (h:¬ W.bq=0):W.iL l=aj.zero∧W.vQ l= []∧W.rM l=W.bq:=by
 have he:W.rM l=W.bq:=by unfold aj.rM;rw [aUz h]
 unfold aj.iL aj.vQ;rw [he,aUr h,aUr h];exact ⟨Z,Z,Z⟩
theorem asF {W:aj} {l:List ct} (h:W.bq=0) (aB:200<l.length):W.iL l=aj.zero∧W.vQ l= []∧W.rM l=2:=by
 have he:W.rM l=2:=by unfold aj.rM;rw [aUr (by simpa using h),aUz aB]
 unfold aj.iL aj.vQ;rw [he];exact ⟨Z,Z,Z⟩
theorem VF {W:aj} {l:List ct} (h:W.bq=0) (aB:l.length≤200):W.rM l=0:=by unfold aj.rM;rw [aUr (by simpa using h),aUr (by omega)]
theorem ae2 {W:aj} {l:List ct} (h:W.bq=0) (aB:l.length≤200):W.iL l=(W.h8 l).1:=by unfold aj.iL;rw [aUz (VF h aB)]
theorem ae3 {W:aj} {l:List ct} (h:W.bq=0) (aB:l.length≤200):W.vQ l=(W.h8 l).2:=by unfold aj.vQ;rw [aUz (VF h aB)]
theorem asp (W:aj) (l:List ct) (d:ct):W.h8 (l++ [d])=(((W.h8 l).1.lD d).getD (W.h8 l).1,(W.h8 l).2++ [((W.h8 l).1.lD d).isSome]):=by
 induction l generalizing W with
 | nil=>simp only [aWJ,aj.h8];cases W.lD d<;>rfl
 | cons x r bI =>
  simp only [aVW,aj.h8];cases W.lD x with
  | none=>simp only [bI];rfl
  | some V=>simp only [bI];rfl
theorem VE {W:aj} {l:List ct} {k:Nat} (aw:k<l.length):W.h8 (l.take (k+1))=(((W.h8 (l.take k)).1.lD (l.getD k default)).getD (W.h8 (l.take k)).1,(W.h8 (l.take k)).2++ [((W.h8 (l.take k)).1.lD (l.getD k default)).isSome]):=by
 rw [← asp,aUM aw];congr 3;rw [aUi,aUk aw];rfl
theorem aso (W:aj) (l:List ct):(W.h8 l).2.length=l.length:=by
 induction l generalizing W with
 | nil=>rfl
 | cons x r bI =>
  simp only [aj.h8];cases W.lD x with
  | none=>simp only [aUn,bI]
  | some V=>simp only [aUn,bI]
theorem asn (d:ct) (w:World) (ax S:Nat) (a:aj.cq) (W:aj) (h:lV w ax S a W) (bD:Good W):
  Calls prog 100 #[.pointer (some ⟨S,0,none⟩), .agg #[.int .i64 d.kind, .int .i64 d.aU, .int .i64 d.spot.x, .int .i64 d.spot.y, .int .i64 d.what]] w (xl W (W.lD d) w ax S a):=by
 refine cl (n:=22) func100 Z Z Z ?_;refine ai<|cI Z Z Z Z λ cW bw a7 eA ab=> ?_;have:=a7.size;have bk:=τ (Ext.bK w) a7;have hx:=bk;have eG:=ab.lt;refine va Z<|ag<|az<|ai<|J (au ata Z)<|J (ak Z (ab.one bf Z))<|ag<|bA<|ai<|J (beq Z Z)<|va Z<|ag<| ?_;refine kj Z (λ qM=> ?_) (λ qM=> ?_)
 ·refine ai<|vm Z<|J (ak Z (ab.all Lh Fl))<|ca atb Z Z ((VD (aBg d _ ax S a W (h.later bk) bD) hx).mono ?_);rintro e wK ⟨a2,rfl,hS,hf,hm⟩;refine ⟨_,Z, ?_⟩;refine va Z<|ag<|rt<|eK<|bT<|bb (.tmp Z .nil)<| ?_;exact ⟨a2,by rw [aj.aeS ‹_›];rfl,by rw [aj.aeS ‹_›];exact hS,hf,hm⟩
 ·refine ai<|J (beq Z Z)<|va Z<|ag<| ?_;refine kj Z (λ je=> ?_) (λ je=> ?_)
  ·refine ai<|vm Z<|J (ak Z (ab.all Lh Fl))<|ca atc Z Z ((VD (asP d _ ax S a W (h.later bk) bD) hx).mono ?_);rintro e wI ⟨a2,rfl,hS,hf,hm⟩;refine ⟨_,Z, ?_⟩;refine va Z<|ag<|rt<|eK<|bT<|bb (.tmp Z .nil)<| ?_;exact ⟨a2,by rw [aj.aeQ ‹_›];rfl,by rw [aj.aeQ ‹_›];exact hS,hf,hm⟩
  ·refine ai<|J (beq Z Z)<|va Z<|ag<| ?_;refine kj Z (λ qL=> ?_) (λ qL=> ?_)
   ·refine ai<|vm Z<|J (ak Z (ab.all Lh Fl))<|ca atd Z Z ((VD (axt d _ ax S a W (h.later bk) bD) hx).mono ?_);rintro e zZ ⟨a2,rfl,hS,hf,hm⟩;refine ⟨_,Z, ?_⟩;refine va Z<|ag<|rt<|eK<|bT<|bb (.tmp Z .nil)<| ?_;exact ⟨a2,by rw [aj.aeR ‹_›];rfl,by rw [aj.aeR ‹_›];exact hS,hf,hm⟩
   ·refine fv<|bX<|aT<|ai<|va Z<|ag<|rt<|bb (.tmp Z .nil)<| ?_;exact ⟨a,by rw [aj.aeT ‹_› ‹_› ‹_›];rfl,by rw [aj.aeT ‹_› ‹_› ‹_›];exact h.later bk,λ q I=> .inl I,Mod.bF bk⟩
theorem asD (l:List ct) (A:Option Addr) (c:Nat) (w:World) (a:aj.cq) (W:aj) (bQ:aj.Has w a W) (aB:ct.rep.aK 40 w A c l):
  Calls prog 63 #[.agg ((aj.cells a W).toArray), .slice A l.length c] w (aoa W l w):=by
 have o5:=(Ext.bK w).size;refine cl (n:=40) func63 Z Z Z ?_;refine ai<|cI Z Z Z Z λ cW bw a7 eA ab=> ?_;have:=a7.size;have bk:=τ (Ext.bK w) a7;have eG:=ab.lt;refine al Z pR Z Z λ eM cA bo iq ah=> ?_;have:=bo.size;have bR:=τ bk bo;have ia:=ah.lt;refine va Z<|va Z<|ag<|az<|ai<| ?_;have ab:=ab.later bo;refine J (ak Z (ab.all dD cf))<|ca HV Z Z ((CW a W _ (bQ.keep bR)).mono ?_);rintro e hk ⟨rfl,f_⟩;refine ⟨_,Z, ?_⟩;have:=f_.size;have c':=τ bR f_;refine va Z<|ag<|ai<|vm Z<|J (bne Z Z)<|ag<| ?_;refine eU Z (λ ld=> ?_) (λ ld=> ?_)
 ·refine ai<|J (v:= .agg #[.int .i64 0, .int .i64 0, .slice none 0 0, .slice none 0 0, .slice none 0 0, .slice none 0 0, .slice none 0 0, .int .i64 0, .int .i64 0]) (cM Z (by kernel_rfl))<|vm Z<| ?_;have ah:=ah.later f_;refine st (new:= [.int .i64 0, .int .i64 0, .slice none 0 0, .slice none 0 0, .slice none 0 0, .slice none 0 0, .slice none 0 0, .int .i64 0, .int .i64 0]) Z Z ah Z cf Z Z Z λ JJ p9 ah=> ?_;have:=p9.size;have vl:=Ext.mod c' p9 bx;refine va Z<|va Z<|ag<|rt<|bT<|bb (.cell Z (ah.all dD cf) (.tmp Z (.tmp Z .nil)))<| ?_;obtain ⟨a8,bl,cZ⟩:=asE ‹_›;exact ⟨⟨none,none,none,none,none,0,0,0,0,0⟩,none,0,by rw [a8,bl,cZ];rfl,by rw [a8];exact bj.zero _ _,by rw [bl];exact κ.aD.nil _,λ q I=>by simp [κ.ae] at I,vl⟩
 ·have bD:=Good.BD ld;refine bt<|az<|ai<|vm Z<|J (cj underlying125 Z)<|J (iK Z Z)<|ag<| ?_;refine dw Z (λ uE=> ?_) (λ uE=> ?_)
  ·refine ai<|J (v:= .agg #[.int .i64 0, .int .i64 0, .slice none 0 0, .slice none 0 0, .slice none 0 0, .slice none 0 0, .slice none 0 0, .int .i64 0, .int .i64 0]) (cM Z (by kernel_rfl))<| ?_;have ah:=ah.later f_;refine st (new:= [.int .i64 0, .int .i64 0, .slice none 0 0, .slice none 0 0, .slice none 0 0, .slice none 0 0, .slice none 0 0, .int .i64 0, .int .i64 0]) Z Z ah Z cf Z Z Z λ u7 x2 ah=> ?_;have:=x2.size;have lS:=Ext.mod c' x2 bx;refine va Z<|va Z<|ag<|rt<|bT<|bb (.cell Z (ah.all dD cf) (.tmp Z (.tmp Z .nil)))<| ?_;obtain ⟨a8,bl,cZ⟩:=asF (W:=W) (l:=l) ld (by omega);exact ⟨⟨none,none,none,none,none,0,0,0,0,0⟩,none,0,by rw [a8,bl,cZ];rfl,by rw [a8];exact bj.zero _ _,by rw [bl];exact κ.aD.nil _,λ q I=>by simp [κ.ae] at I,lS⟩
  ·refine bt<|ai<| ?_;have ab:=ab.later f_;refine J (ak Z (ab.all dD cf))<|ca ate Z Z ((aCf a W _ (bQ.keep c')).mono ?_);rintro e tG ⟨cy,rfl,aW,fi⟩;refine ⟨_,Z, ?_⟩;have:=fi.size;have gw:=τ c' fi;have zU:=λ q I=>(aW.lt q I).2;have lo:=λ q I=>(aW.lt q I).1;refine J (v:= .agg #[.int .i64 W.field.wide, .int .i64 W.field.high, .slice cy.P W.field.aY.length cy.p, .slice cy.B W.aZ.length cy.b, .slice cy.S W.bg.length cy.s, .slice cy.M W.bs.length cy.m, .slice cy.T W.ao.length cy.t, .int .i64 W.next, .int .i64 W.now]) (cM Z (by kernel_rfl))<|al Z atf Z Z λ z8 AQ kx aAj Al=> ?_;have:=kx.size;have mD:=τ gw kx;have Zk:=Al.lt;refine st (new:= [.int .i64 W.field.wide, .int .i64 W.field.high, .slice cy.P W.field.aY.length cy.p, .slice cy.B W.aZ.length cy.b, .slice cy.S W.bg.length cy.s, .slice cy.M W.bs.length cy.m, .slice cy.T W.ao.length cy.t, .int .i64 W.next, .int .i64 W.now]) Z Z Al Z atg Z Z Z λ wJ lh Al=> ?_;have:=lh.size;have ma:=Ext.mod mD lh bx;refine ag<|ai<|va Z<|ag<|az<|ai<|vm Z<|J (cj underlying125 Z)<|vm Z<|ag<|bA<| ?_;have aW:=aW.later kx;have aW:=aW.mod lh (b' zU);have fw:lV wJ hk.heap.size AQ cy W:=⟨Al,aW,λ I=>by have:=zU _ I;omega,by omega⟩;have ah:=ah.later (τ f_ (τ fi kx));have ah:=ah.mod lh aQ;refine dX (λ b4 b2 aG=>∃ k:Nat,∃ a2:aj.cq,∃ Cm:Option Addr,∃ P8:Nat,b2= [(4, .pointer (some ⟨cA,0,none⟩)),(5, .slice none 0 0),(6, .int .i64 0),(8, .pointer (some ⟨AQ,0,none⟩)),(9, .slice Cm ((W.h8 (l.take k)).2.length) P8),(25, .slice A l.length c),(26, .int .i64 (l.length:Int)),(27, .int .i64 (k:Int))]∧b4=l.length - k∧Ext w aG∧aN aG cA [.int .i64 0, .int .i64 0, .slice none 0 0, .slice none 0 0, .slice none 0 0, .slice none 0 0, .slice none 0 0, .int .i64 0, .int .i64 0] 28 (0,0)∧lV aG hk.heap.size AQ a2 (W.h8 (l.take k)).1∧zJ.aD 4 1 aG w.heap.size (κ.ae Cm) Cm P8 (W.h8 (l.take k)).2∧(k≤l.length)∧(∀ q∈κ.ae Cm,q≠AQ∧q∉bj.bV a2)∧(∀ q∈κ.ae Cm,q=cA→False)) _ _ ⟨0,cy,none,0,Z,Z,ma,ah,fw,(κ.aD.nil _),by omega,λ q I=>by simp [κ.ae] at I,(λ q I Φ=>by (simp [κ.ae] at I))⟩ (.cons Z (.cons Z (.cons Z (.cons Z (.cons Z (.cons Z (.cons Z (.cons (bO Z) .nil)))))))) ?_;rintro jS aIZ Tk ⟨k,a2,Cm,P8,rfl,rfl,ri,ah,fw,qz,aw,hd,xz⟩;have:=ri.size;have aQ0:=ah.lt;have zW:=λ q I=>(qz.lt q I).2;have JB:=λ q I=>(fw.own.lt q I).2;have Ip:=fw.fB.lt;have hle:=aB.dT;have Iw:(W.h8 (l.take k)).2.length=k:=by rw [aso,aUm];omega
   refine ai<|J (blt Z Z)<|ag<|az<| ?_;refine dw Z (λ Bb=> ?_) (λ Bb=> ?_)
   ·refine bt<|az<|bA<|ai<|J (bY k underlying125 Fl Z Z ((aB.keep ri).bu (aX k)) Z (by omega))<|J (ak Z (κ.aK.hb awZ (by rw [← (aB.keep ri).bu (aX k)];exact (aB.keep ri)) (dH (l:=l) (u:=default) (by omega)) Lh Fl))<|al Z ath Z Z λ Tn CQ kz aAk qw=> ?_;have:=kz.size;have Cc:=τ ri kz;have Zm:=qw.lt;refine st (new:= [.int .i64 ((l.getD k default).kind), .int .i64 ((l.getD k default).aU), .int .i64 ((l.getD k default).spot.x), .int .i64 ((l.getD k default).spot.y), .int .i64 ((l.getD k default).what)]) Z Z qw Z Fl Z Z Z λ aam wv qw=> ?_;have:=wv.size;have G5:=Ext.mod Cc wv bx;refine ag<|rg<|vm Z<|J (ak Z (qw.all Lh Fl))<| ?_;have fw:=fw.later kz;have fw:=fw.mod wv (λ q I=>by rw [aUg.1 I];exact ⟨by omega,λ hf=>by have:=JB _ hf;have:=(fw.own.lt _ hf).1;omega⟩);have qz:=qz.later kz;have qz:=qz.mod wv (b' zW);refine ca ati Z Z ((asn (l.getD k default) _ hk.heap.size AQ a2 (W.h8 (l.take k)).1 fw (bD.h8 _)).mono ?_);rintro e JO ⟨a3,rfl,n6,hf,nY⟩;refine ⟨_,Z, ?_⟩;have hu:=λ q I=>(qz.lt q I).2;have:=nY.size;have sD:=Ext.mod G5 nY (λ q I=>(aUD.1 I).elim (λ h=>by rw [h];omega) (λ h=>by have:=(fw.own.lt q h).1;omega));have Iu:∀ q∈κ.ae Cm,q≠AQ∧q∉bj.bV a3:=λ q I=>⟨(hd q I).1,λ h=>(hf q h).elim (hd q I).2 (λ h=>by have:=hu q I;omega)⟩;have aoM:=fw;have fw:=n6;have JB:=λ q I=>(fw.own.lt q I).2;refine c6 (e:= 4) (cs:= [.bool (((W.h8 (l.take k)).1.lD (l.getD k default)).isSome)]) Z (λ _=>by kernel_rfl) Z λ JP aJ9 lr aOi abL=> ?_;have:=lr.size;have qt:=τ sD lr;have aDl:=abL.lt;have qz:=qz.mod nY (λ q I h=>(aUD.1 h).elim (hd q I).1 (hd q I).2);have qz:=qz.later lr;refine ap aoo κ.dE qz (aN.gM (R:=zJ) (by_:=1) (q:=((W.h8 (l.take k)).1.lD (l.getD k default)).isSome) abL ⟨Z,trivial⟩ (by decide)) Z Z (by simp only [aUn,aUt];omega) (by simp only [aUn,aUt];omega) qt.size Z λ Tr abf aqY p' acR af9 aPJ=> ?_;have:=p'.size;have Cf:=Ext.mod qt p' (λ q I=>(qz.lt q I).1);have aFw:=λ q I=>(acR.lt q I).2;have:=p'.size;have ag6:∀ q∈κ.ae abf,q≠AQ∧q∉bj.bV a3:=λ q I=>(af9 q I).elim (Iu q) (λ h=>⟨by omega,λ hf=>by have:=JB q hf;omega⟩);refine va Z<|nl<|bX<|aT<|rg<|J (bad Z Z (bH (by omega)))<|vm Z<|nl<| ?_;have ah:=ah.later kz;have ah:=ah.mod wv aQ;have ah:=ah.mod nY (λ h=>(aUD.1 h).elim (λ h=>by omega) (λ h=>by have:=(aoM.own.lt _ h).1;omega));have ah:=ah.later lr;have ah:=ah.mod p' (λ I=>xz _ I rfl);have fw:=fw.later lr;have fw:=fw.mod p' (λ q I=>Iu q I);exact cO _ _ ⟨k+1,a3,abf,aqY,Z,Z,Cf,ah,(by rw [VE (by omega:k<l.length)];exact fw),(by rw [VE (by omega:k<l.length)];exact acR),by omega,ag6,(λ q I Φ=>by (exact aUw (af9 q I) (λ DJ=>by (exact xz q DJ Φ)) (λ DJ=>by omega)))⟩ (by omega) (.cons Z (.cons Z (.cons Z (.cons Z (.cons (by rw [VE (by omega:k<l.length)];rfl) (.cons Z (.cons Z (.cons (bO Z) .nil))))))))
   ·refine c_<|c9<|dn<|c8<|aT<|ai<|J (au nB Z)<|J (ak Z (fw.fB.all dD cf))<|vm Z<|st Z Z ah Z cf Z Z Z λ JT ir ah=> ?_;have:=ir.size;have pj:=Ext.mod ri ir bx;refine va Z<|va Z<|ag<|rt<|bb (.cell Z (ah.all dD cf) (.tmp Z (.tmp Z .nil)))<| ?_;have fw:=fw.mod ir (λ q I=>by rw [aUg.1 I];exact ⟨by omega,λ hf=>by have:=JB _ hf;have:=(fw.own.lt _ hf).1;omega⟩);have qz:=qz.mod ir (λ q I h=>by have Φ:=aUg.1 h;exfalso;(exact xz q I Φ));obtain rfl:k=l.length:=by omega
    refine ⟨a2,Cm,P8, ?_, ?_, ?_,λ q I=>(hd q I).2,pj⟩
    ·rw [ae2 ld (by omega),ae3 ld (by omega),VF ld (by omega),aVd];rfl
    ·rw [ae2 ld (by omega)];rw [aVd] at fw;exact fw.own.down (by omega)
    ·rw [ae3 ld (by omega)];rw [aVd] at qz;exact qz
end
section
def wt (t:bd):Int:=t.load+aj.kW t.kind
def aj.total (W:aj):Int:=W.bs.sum+W.bg.sum+(W.ao.map wt).sum
def aj.aUa (W:aj):Int:=if W.bq=0 then W.total else 0
end
section
theorem aok:Kn prog bd.cells 66 :=by
 intro a b w;obtain ⟨a0,cy,a2,⟨a3,a4⟩,a5,Hv⟩:=a;obtain ⟨yY,hX,dW,⟨gd,pJ⟩,HA,adj⟩:=b;simp only [bd.cells,bd.mk.injEq,ay.mk.injEq];constructor
 ·go_simp
  repeat' split
  all_goals simp_all
 ·go_simp
  repeat' split
  all_goals simp_all
theorem aoj:(prog).eqGuardType (prog).depth 66 =false:=by kernel_rfl
theorem V8 {α:Type} {l m:List α} {k:Nat} (γ:l.length=m.length) (aw:l.length≤k) (h:∀ j,j<k→l[j]? =m[j]?):l=m:=by
 apply aVJ;intro j;by_cases aA:j<k
 ·exact h j aA
 ·rw [aVp (by omega),aVp (by omega)]
theorem YZ {α:Type} [DecidableEq α] {a b:α} (h:(!decide (a=b))=true):¬ a=b:=by simpa using h
theorem V9 {α:Type} [DecidableEq α] {a b:α} (h:(!decide (a=b))=false):a=b:=by simpa using h
theorem auY (A B:Option Addr) (c d hX dW:Nat) (l m:List bd) (w:World) (γ:bd.rep.aK hX w A c l) (aa:bd.rep.aK dW w B d m):
  Calls prog 30 #[.slice A l.length c, .slice B m.length d] w (λ e w'=>e= .returned (.bool (decide (l=m)))∧Ext w w'):=by
 have hle:=γ.dT;refine cl (n:=26) func30 Z Z Z ?_;refine ai<|va Z<|ag<|az<|ai<|vm Z<|J (cj underlying26 Z)<|vm Z<|J (cj underlying26 Z)<|J (bne Z Z)<|ag<| ?_;refine eU Z (λ j'=> ?_) (λ j'=> ?_)
 ·refine ai<|va Z<|ag<|rt<|bT<|bb (.tmp Z .nil)<| ?_;rw [aUU (λ e=>j' (by rw [e]))];exact ⟨Z,(Ext.bK w)⟩
 ·refine bt<|az<|ai<|vm Z<|J (cj underlying26 Z)<|vm Z<|ag<|bA<| ?_;refine dX (λ b4 b2 aG=>∃ k:Nat,b2= [(0, .slice A l.length c),(1, .slice B m.length d),(12, .int .i64 (l.length:Int)),(13, .int .i64 (k:Int))]∧b4=l.length - k∧Ext w aG∧(k≤l.length)∧(∀ j,j<k→l[j]? =m[j]?)) _ _ ⟨0,Z,Z,(Ext.bK w),by omega,λ j aA=>absurd aA (by omega)⟩ (.cons Z (.cons Z (.cons Z (.cons (bO Z) .nil)))) ?_;rintro Ns Km ku ⟨k,rfl,rfl,di,aw,gv⟩;have:=di.size;have hle:=γ.dT;have XL:=aa.dT;refine ai<|J (blt Z Z)<|ag<|az<| ?_;refine dw Z (λ mT=> ?_) (λ mT=> ?_)
  ·obtain ⟨eH,ka⟩:=hC (l:=l) (i:=k) (by omega);obtain ⟨vk,uN⟩:=hC (l:=m) (i:=k) (by omega);refine bt<|az<|bA<|ai<|vm Z<|va Z<|ag<|az<| ?_;refine rd [(3,0),(7,0)] [0,1,2,3,4,5,6,7,8] (by kernel_rfl) (by kernel_rfl) ?_;refine ar Z (λ _=>aM Z)<|ar Z (λ _=>aM Z)<|ar Z (λ _=>bY k underlying26 jd Z Z ((γ.keep di).bu (aX k)) Z (by omega))<|bG Z (λ _ x=>ak Z (κ.aK.hb jH (by rw [← (γ.keep (τ di x)).bu (aX k)];exact (γ.keep (τ di x))) ka y8 jd))<|ar Z (λ _=>aM Z)<|ar Z (λ _=>aM Z)<|ar Z (λ _=>bY k underlying26 jd Z Z ((aa.keep di).bu (aX k)) Z (by omega))<|bG Z (λ _ x=>ak Z (κ.aK.hb jH (by rw [← (aa.keep (τ di x)).bu (aX k)];exact (aa.keep (τ di x))) uN y8 jd))<|ar Z (λ _=>PZ aok aoj (p:=eH) (q:=vk) Z Z)<|fn λ Ei nZ=> ?_;have:=nZ.size;have lv:=τ di nZ;refine aT<| ?_;refine ee Z (λ je=> ?_) (λ je=> ?_)
   ·refine ai<|va Z<|ag<|rt<|eK<|bT<|my<|eK<|bT<|bb (.tmp Z .nil)<| ?_;rw [aUU (λ e=>by rw [e,uN] at ka;injection ka with ka;exact absurd ka.symm (by first | exact YZ je | exact je))];exact ⟨Z,lv⟩
   ·refine fv<|bX<|aT<|rg<|J (bad Z Z (bH (by omega)))<|vm Z<|nl<| ?_;exact cO _ _ ⟨k+1,Z,Z,lv,by omega,th gv (by rw [ka,uN,(by first | exact V9 je | exact je:eH=vk)])⟩ (by omega) (.cons Z (.cons Z (.cons Z (.cons (bO Z) .nil))))
  ·refine c_<|c9<|dn<|c8<|aT<|ai<|va Z<|ag<|rt<|bb (.tmp Z .nil)<| ?_;rw [aUL (V8 (by omega) (by omega) gv)];exact ⟨Z,di⟩
end
section
def kZ:aj:=⟨⟨3,1, [0,0,3]⟩, [⟨0,0⟩], [20], [0,0,9], [⟨1,0,1,⟨1,0⟩,10,0⟩],2,0⟩
def aEi:List ct:= [(⟨1,1,⟨2,0⟩,0⟩:ct),(⟨3,0,⟨0,0⟩,2⟩:ct)]
def aRu:aj:=kZ.iL aEi
theorem alS  (w:World):
  Calls prog 48 #[] w (λ e w'=>∃ a,e= .returned (.agg (aj.cells a kZ).toArray)∧bj w' w.heap.size a kZ∧Ext w w'):=by
 refine cl (n:=11) func48 Z Z Z ?_;refine ai<|al Z pR Z Z λ cW bw a7 eA ab=> ?_;have:=a7.size;have bk:=τ (Ext.bK w) a7;have eG:=ab.lt;refine ag<|ai<|c6 (e:= 3) (cs:= [.int .i64 0, .int .i64 0, .int .i64 3]) Z (λ _=>by kernel_rfl) Z λ eM cA bo iq ah=> ?_;have:=bo.size;have bR:=τ bk bo;have ia:=ah.lt;refine J (v:= .agg #[.int .i64 3, .int .i64 1, .slice (some ⟨cA,0,none⟩) 3 3]) (cM Z (by kernel_rfl))<|J (v:= .agg #[.int .i64 0, .int .i64 0]) (cM Z (by kernel_rfl))<|c6 (e:= 49) (cs:= [.int .i64 0, .int .i64 0]) Z (λ _=>by kernel_rfl) Z λ hk h7 b8 p6 aL=> ?_;have:=b8.size;have c':=τ bR b8;have oz:=aL.lt;refine c6 (e:= 3) (cs:= [.int .i64 20]) Z (λ _=>by kernel_rfl) Z λ nd HB ep Yo po=> ?_;have:=ep.size;have eO:=τ c' ep;have NK:=po.lt;refine c6 (e:= 3) (cs:= [.int .i64 0, .int .i64 0, .int .i64 9]) Z (λ _=>by kernel_rfl) Z λ tG PO jN aAh tV=> ?_;have:=jN.size;have gw:=τ eO jN;have aQS:=tV.lt;refine J (v:= .agg #[.int .i64 1, .int .i64 0]) (cM Z (by kernel_rfl))<|J (v:= .agg #[.int .i64 1, .int .i64 0, .int .i64 1, .int .i64 1, .int .i64 0, .int .i64 10, .int .i64 0]) (cM Z (by kernel_rfl))<|c6 (e:= 66) (cs:= [.int .i64 1, .int .i64 0, .int .i64 1, .int .i64 1, .int .i64 0, .int .i64 10, .int .i64 0]) Z (λ _=>by kernel_rfl) Z λ Oe KY ho ajI vw=> ?_;have:=ho.size;have vo:=τ gw ho;have Zl:=vw.lt;refine J (v:= .agg #[.int .i64 3, .int .i64 1, .slice (some ⟨cA,0,none⟩) 3 3, .slice (some ⟨h7,0,none⟩) 1 1, .slice (some ⟨HB,0,none⟩) 1 1, .slice (some ⟨PO,0,none⟩) 3 3, .slice (some ⟨KY,0,none⟩) 1 1, .int .i64 2, .int .i64 0]) (cM Z (by kernel_rfl))<| ?_;have ab:=ab.later (τ bo (τ b8 (τ ep (τ jN ho))));refine st (new:= [.int .i64 3, .int .i64 1, .slice (some ⟨cA,0,none⟩) 3 3, .slice (some ⟨h7,0,none⟩) 1 1, .slice (some ⟨HB,0,none⟩) 1 1, .slice (some ⟨PO,0,none⟩) 3 3, .slice (some ⟨KY,0,none⟩) 1 1, .int .i64 2, .int .i64 0]) Z Z ab Z cf Z Z Z λ yn l3 ab=> ?_;have:=l3.size;have j1:=Ext.mod vo l3 bx;refine ag<|rt<|bb (.cell Z (ab.all dD cf) .nil)<| ?_;have ah:=ah.later (τ b8 (τ ep (τ jN ho)));have ah:=ah.mod l3 aQ;have aL:=aL.later (τ ep (τ jN ho));have aL:=aL.mod l3 aQ;have po:=po.later (τ jN ho);have po:=po.mod l3 aQ;have tV:=tV.later ho;have tV:=tV.mod l3 aQ;have vw:=vw.mod l3 aQ;exact ⟨⟨some ⟨cA,0,none⟩,some ⟨h7,0,none⟩,some ⟨HB,0,none⟩,some ⟨PO,0,none⟩,some ⟨KY,0,none⟩,3,1,1,3,1⟩,Z,⟨aN.wC (R:=bS) (by_:=8) (B:=w.heap.size) (k:= [0,0,3]) ah [[.int .i64 0], [.int .i64 0], [.int .i64 3]] Z ⟨⟨Z,bN.2 (by decide)⟩,⟨Z,bN.2 (by decide)⟩,⟨Z,bN.2 (by decide)⟩,trivial⟩ (by simp) (by simp) (by decide) (by omega),aN.wC (R:=ay.rep) (by_:=16) (B:=w.heap.size) (k:= [⟨0,0⟩]) aL [[.int .i64 0, .int .i64 0]] Z ⟨⟨Z,bN.2 (by decide),bN.2 (by decide)⟩,trivial⟩ (by simp) (by simp) (by decide) (by omega),aN.wC (R:=bS) (by_:=8) (B:=w.heap.size) (k:= [20]) po [[.int .i64 20]] Z ⟨⟨Z,bN.2 (by decide)⟩,trivial⟩ (by simp) (by simp) (by decide) (by omega),aN.wC (R:=bS) (by_:=8) (B:=w.heap.size) (k:= [0,0,9]) tV [[.int .i64 0], [.int .i64 0], [.int .i64 9]] Z ⟨⟨Z,bN.2 (by decide)⟩,⟨Z,bN.2 (by decide)⟩,⟨Z,bN.2 (by decide)⟩,trivial⟩ (by simp) (by simp) (by decide) (by omega),aN.wC (R:=bd.rep) (by_:=56) (B:=w.heap.size) (k:= [⟨1,0,1,⟨1,0⟩,10,0⟩]) vw [[.int .i64 1, .int .i64 0, .int .i64 1, .int .i64 1, .int .i64 0, .int .i64 10, .int .i64 0]] Z ⟨⟨Z,bN.2 (by decide),bN.2 (by decide),bN.2 (by decide),bN.2 (by decide),bN.2 (by decide),bN.2 (by decide),bN.2 (by decide)⟩,trivial⟩ (by simp) (by simp) (by decide) (by omega),by simp [κ.ae];omega,bN.2 (by decide),bN.2 (by decide),bN.2 (by decide),bN.2 (by decide)⟩,j1⟩
end
section
theorem aBE:∀ (n:Nat) (l:List Nat),l.Nodup→(∀ x∈l,x<n)→l.length≤n:=by
 intro n;induction n with
 | zero =>
  intro l _ h;cases l with
  | nil=>exact aUu _
  | cons x r=>exact absurd (h x aUH) (by omega)
 | succ n bI =>
  intro l hn h;by_cases hm:n∈l
  ·have γ:=bI (l.erase n) (hn.erase _) (λ x hx=>by
    have:=h x (aYU hx);have dY:x≠n:=λ e=>by subst e;exact (List.Nodup.not_mem_erase hn) hx
    omega)
   rw [List.length_erase_of_mem hm] at γ;omega
  ·have:=bI l hn (λ x hx=>by
    have:=h x hx;have dY:x≠n:=λ e=>hm (by rw [← e];exact hx)
    omega)
   omega
section
variable {f:aE} {a b c x y:ay} {d D:Int} {a_:List Int} {aC:ay→Int}
theorem arf (hf:f.bq=0) {l:List ay} (hn:l.Nodup) (aq:∀ x∈l,f.fr x=true):l.length≤f.aY.length:=by
 have γ:(l.map f.at_).Nodup:=by
  have:∀ l:List ay,l.Nodup→(∀ x∈l,f.fr x=true)→(l.map f.at_).Nodup:=by
   intro l;induction l with
   | nil=>intro _ _;exact aXK
   | cons x r bI =>
    intro hn aq;rw [aWI] at hn;rw [aU4,aWI];refine ⟨λ hm=> ?_,bI hn.2 λ y aH=>aq y (aUB _ aH)⟩;obtain ⟨y,aH,e⟩:=aUR.1 hm;have:=aE.adh hf (aq y (aUB _ aH)) (aq x aUH) e;subst this;exact hn.1 aH
  exact this l hn aq
 have:=aBE f.aY.length _ γ (λ i hm=>by
  obtain ⟨y,aH,rfl⟩:=aUR.1 hm;exact (aE.yX hf (aq y aH)).1)
 rwa [aUZ] at this
abbrev mM (f:aE) (a:ay):ay→Int→Prop:=qx.oQ f.cY f.gN (λ s=>s=a)
abbrev sJ (f:aE) (a:ay):ay→Int→Prop:=qx.ua f.cY f.gN (λ s=>s=a)
theorem mM.q1 (r:mM f a x d):0≤d:=qx.oQ.q1 (aE.Y' f) r
theorem mM.ground (ha:f.ground a=true) (r:mM f a x d):f.ground x=true:=by
 induction r with
 | start hs=>rw [hs];exact ha
 | step _ aH _=>exact (aE.Nu.1 aH).2
theorem mM.qg (r:mM f a x d) {e:Int} (q:mM f x y e):mM f a y (d+e):=by
 induction q with
 | start hs=>rw [hs,Int.add_zero];exact r
 | step _ aH bI=>rw [← Int.add_assoc];exact .step bI aH
theorem sJ.pred (h:sJ f a x d):(x=a∧d=0)∨∃ p e,sJ f a p e∧x∈f.cY p∧d=e+f.gN x:=by
 obtain ⟨r,hm⟩:=h;cases r with
 | start hs=>exact .inl ⟨hs,rfl⟩
 | @step p _ e hp aH =>
  obtain ⟨e',he⟩:=qx.oQ.ain (aE.Y' f) hp;have γ:=he.2 _ hp;have aa:=hm _ (.step he.1 aH);have:e=e':=by omega
  subst this;exact .inr ⟨p,e,he,aH,Z⟩
theorem sJ.chain (hf:f.bq=0) (ha:f.ground a=true):∀ (n:Nat) (x:ay) (d:Int),sJ f a x d→d.toNat=n→∃ l:List ay,l.Nodup∧(∀ y∈l,f.fr y=true∧∃ e,sJ f a y e∧e≤d)∧d+3≤3 * (l.length:Int):=by
 intro n;induction n using Nat.strongRecOn with
 | ind n bI =>
  intro x d h hn;have hx:=aE.j_ (mM.ground ha h.1);rcases h.pred with ⟨γ,aa⟩ | ⟨p,e,γ,aa,av⟩
  ·refine ⟨[x],by simp,λ y aH=> ?_,by rw [aa];simp⟩;rw [aUg.1 aH];exact ⟨hx,d,h,aVR _⟩
  ·have aw:=f.p5 (c:=x);have he:=mM.q1 γ.1;obtain ⟨l,eE,jQ,F4⟩:=bI e.toNat (by omega) p e γ rfl;refine ⟨x::l,aWI.2 ⟨λ hm=> ?_,eE⟩,λ y aH=> ?_,by rw [aUn];omega⟩
   ·obtain ⟨_,e',aV,bJ⟩:=jQ x hm;have:=aV.uniq h;omega
   ·rcases aUD.1 aH with rfl | aH
    ·exact ⟨hx,d,h,aVR _⟩
    ·obtain ⟨aV,e',bJ,cg⟩:=jQ y aH;exact ⟨aV,e',bJ,by omega⟩
theorem sJ.cM (hf:f.bq=0) (ha:f.ground a=true) (h:sJ f a x d):d+3≤3 * (f.aY.length:Int):=by
 obtain ⟨l,eE,jQ,F4⟩:=h.chain hf ha _ x d rfl;have:=arf hf eE λ y aH=>(jQ y aH).1;omega
def cellAt (f:aE) (i:Nat):ay:=⟨(i:Int) % f.wide,(i:Int) / f.wide⟩
theorem aq7 (hf:f.bq=0) (hc:f.fr c=true):cellAt f (f.at_ c)=c:=by
 obtain ⟨_,_,a2,a3,a4,a5⟩:=aE.idx hf hc;have h:=(aE.yX hf hc).2;unfold cellAt;rw [h];have a8:(c.y * f.wide+c.x) % f.wide=c.x:=by rw [aX9,aW6,aX8 a2 a3]
 have bl:(c.y * f.wide+c.x) / f.wide=c.y:=by rw [aX9,Int.add_mul_ediv_right _ _ (by omega),Int.ediv_eq_zero_of_lt a2 a3,Int.zero_add]
 rw [a8,bl]
theorem avm (hf:f.bq=0) {g:ay→Int} (aS:∀ c,f.fr c=false→g c= -1):f.aC ((List.range f.aY.length).map λ i=>g (cellAt f i)) c=g c:=by
 cases hc:f.fr c with
 | false=>rw [aE.Wo hc,aS c hc]
 | true =>
  rw [aE.H8 hc,aUi,aUx,aXS (aE.yX hf hc).1];show g (cellAt f (f.at_ c))=g c;rw [aq7 hf hc]
theorem akK (hf:f.bq=0) (ha:f.ground a=true) (b:ay):∃ a_,pF f a b a_:=by
 let Q:ay→Int→Prop:=λ c d=>sJ f a c d∧∀ D,sJ f a b D→d+aE.kM b c≤D
 let g:ay→Int:=λ c=>@dite _ (∃ d,Q c d) (Classical.propDecidable _) (λ h=>h.choose) λ _=> -1
 have QV:∀ c d,Q c d→g c=d:=λ c d h=>by
  have hex:∃ d,Q c d:=⟨d,h⟩;show @dite _ (∃ d,Q c d) (Classical.propDecidable _) (λ h=>h.choose) (λ _=> -1)=d;rw [dif_pos hex];exact hex.choose_spec.1.uniq h.1
 have gn:∀ c,(¬ ∃ d,Q c d)→g c= -1:=λ c h=>by
  show @dite _ (∃ d,Q c d) (Classical.propDecidable _) (λ h=>h.choose) (λ _=> -1)= -1;rw [dif_neg h]
 have y_:∀ c,0≤g c→Q c (g c):=λ c h=>by
  by_cases hex:∃ d,Q c d
  ·obtain ⟨d,hd⟩:=hex;rw [QV c d hd];exact hd
  ·rw [gn c hex] at h;omega
 have go:∀ c,f.fr c=false→g c= -1:=λ c hc=>gn c λ ⟨d,hd⟩=>by
  have:=aE.j_ (mM.ground ha hd.1.1);rw [hc] at this;cases this
 have lF:∀ c,f.aC ((List.range f.aY.length).map λ i=>g (cellAt f i)) c=g c:=λ c=>avm hf go;refine ⟨(List.range f.aY.length).map λ i=>g (cellAt f i),by rw [aUZ,aZl],⟨λ c h=> ?_,λ c h=> ?_,λ c d hd hle=> ?_,λ c h=> ?_⟩,λ c=> ?_,λ c h=> ?_⟩
 ·rw [lF c] at h ⊢;by_cases hex:∃ d,Q c d
  ·obtain ⟨d,hd⟩:=hex;rw [QV c d hd] at h;have:=mM.q1 hd.1.1;omega
  ·exact gn c hex
 ·rw [lF c] at h ⊢;exact y_ c h
 ·rw [lF c];exact QV c d ⟨hd,hle⟩
 ·rw [lF c] at h ⊢;have I:=y_ c h;rcases I.1.pred with γ | ⟨p,e,γ,aa,av⟩
  ·exact .inl γ
  ·right;have he:=aE.Wb b (aE.Nu.1 aa).1;have aw:=f.p5 (c:=c);have hp:g p=e:=QV p e ⟨γ,λ D vX=>by have:=I.2 D vX;omega⟩;exact ⟨p,by rw [lF p,hp];exact mM.q1 γ.1,aa,by rw [lF p,hp];exact av⟩
 ·rw [lF c];by_cases h:0≤g c
  ·have:=(y_ c h).1.cM hf ha;omega
  ·omega
 ·rw [lF c] at h;exact mM.ground ha (y_ c h).1.1
theorem Wn (hf:f.bq=0) (ha:f.ground a=true):qx.Spec f.cY f.gN (aE.kM b) (λ s=>s=a) b (cP f a b):=by
 obtain ⟨a_,h⟩:=akK hf ha b;rw [← h.QO];exact h.spec
theorem Lp (hf:f.bq=0) (ha:f.ground a=true) (h:0≤cP f a b c):sJ f a c (cP f a b c):=((Wn hf ha).oV c h).1
theorem afX (hf:f.bq=0) (ha:f.ground a=true) (h:sJ f a b d):cP f a b b=d:=(Wn hf ha).end_ (aE.Wa b) h
theorem avl (hf:f.bq=0) (ha:f.ground a=true) (h:mM f a b d):0≤cP f a b b∧cP f a b b≤d:=by
 obtain ⟨e,he⟩:=qx.oQ.ain (aE.Y' f) h;rw [afX hf ha he];exact ⟨mM.q1 he.1,he.2 _ h⟩
theorem Lq (hf:f.bq=0) (ha:f.ground a=true) (h:0≤cP f a b b):oN f a (cP f a b):=by
 obtain ⟨a_,hp⟩:=akK hf ha b;exact oN.Gp hp h
theorem aGy (h:oN f a aC):∀ (n:Nat) (c:ay),0≤aC c→(aC c).toNat=n→∀ x∈fX f aC a c,0≤aC x∧aC x≤aC c∧f.ground x=true:=by
 intro n;induction n using Nat.strongRecOn with
 | ind n bI =>
  intro c hc hn x hx;by_cases e:c=a
  ·subst e;rw [BZ h] at hx;rw [aUg.1 hx];exact ⟨hc,aVR _,h.gr _ hc⟩
  ·obtain ⟨eX,fL,m_,x'⟩:=h.prev hc e;have aw:=f.p5 (c:=c);rw [B0 h hc e] at hx;rcases aUD.1 hx with rfl | hx
   ·exact ⟨hc,aVR _,h.gr _ hc⟩
   ·obtain ⟨lM,nQ,yc⟩:=bI _ (by omega) _ m_ rfl x hx;exact ⟨lM,by omega,yc⟩
theorem Wi (he:hB f a b=0):f.bq=0∧f.ground a=true∧f.ground b=true∧0≤cP f a b b∧oZ f a b=cP f a b b∧fY f a b=(fX f (cP f a b) a b).reverse:=by
 rcases Wh f a b with ⟨γ,aa⟩ | ⟨γ,aa,av⟩ | ⟨γ,aa,av,aV⟩ | ⟨γ,aa,av,aV | aV⟩
 ·rw [aa] at he;exact absurd he γ
 ·rw [av] at he;exact absurd he aa
 ·rw [aV] at he;cases he
 ·rw [aV.2] at he;cases he
 ·refine ⟨γ,aa,av,aV.1, ?_, ?_⟩
  ·unfold oZ;rw [aUz he]
  ·unfold fY;rw [aUz he]
end
end
section
def aO4:List bd:= [⟨1,0,1,⟨2,0⟩,10,0⟩]
def aO3:List dz:= [⟨1,⟨2,0⟩⟩]
end
end Go.Proofs.YtlikikpgmmkjbaaGreat
