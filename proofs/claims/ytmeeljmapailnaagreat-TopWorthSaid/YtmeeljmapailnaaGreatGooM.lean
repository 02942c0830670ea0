import Derived.Test.YtmeeljmapailnaaGreatHitS
set_option linter.unusedVariables false
set_option linter.unusedSimpArgs false
set_option maxRecDepth 100000
set_option maxHeartbeats 4000000
open Go.RowKit
namespace Go.Proofs.YtmeeljmapailnaaGreat
open Tryz
abbrev aTo:=@Classical.byContradiction
abbrev aVf:=@List.contains_iff_mem
abbrev aVv:=@bne_iff_ne
section
theorem aoY:eX prog bQ 22 3 8:=eX.lV (z:= .int .i64 0) (k:=1) underlying22 DQ rfl rfl (by decide) (λ j u h=>Jc j u h)
theorem τ.aJ.Rt {α:Type} {R:τ α} {by_ c:Nat} {w w':World} {A:Option Addr} {l:List α} {F:List Nat} (h:R.aJ by_ w A c l) (hp:R.Plain) (m:Mod F w w') (d:0<l.length→∀ q∈τ.ah A,q∉F):R.aJ by_ w' A c l:=by
 obtain ⟨κ,ab,aw,a6,ess,bH,ch,dZ⟩:=h;refine ⟨κ,ab,aw,a6,ess,bH.imp (λ es a _ h=>R.tE (R.tF (hp (B:=0) h) (by simp))),ch,λ aG=> ?_⟩;obtain ⟨b,o,rfl,hc⟩:=dZ aG;refine ⟨b,o,Z,λ j u hu=> ?_⟩;have gh:=hc j u hu;have Φ:b<w.heap.size:=by
  apply aTo;intro hn;have:w.heap[b]? =none:=aSU (by omega);simp [World.cell?,this] at gh
 have ar:=m.block b Φ (d aG b (by simp [τ.ah]));simp only [World.cell?] at gh ⊢;rw [ar];exact gh
theorem PG {w:World} {A:Option Addr} {c:Nat} {T:List ax} (h:ax.rep.aJ 16 w A c T) (k:Nat):(T.getD k default).ok:=by
 rw [aRU];cases aC:T[k]? with
 | none=>exact ⟨by decide,by decide⟩
 | some t=>exact h.ze (λ fV=>(show _∧_ from fV).2) t (aSo aC)
theorem Ss {t:aY} (h:t.ok):t.spot.ok:=by
 obtain ⟨κ,ab,aw,a6,bH,ch,dZ⟩:=h;exact ⟨a6,bH⟩
theorem aDH {t:aY} {c:ax} (h:t.ok) (hc:c.ok):(t.bq c).ok:=by
 obtain ⟨κ,ab,aw,a6,bH,ch,dZ⟩:=h;exact ⟨κ,ab,aw,hc.1,hc.2,ch,dZ⟩
theorem au7 {l:List dm} {id:Int} (h:¬ ey l id<0):0≤ey l id∧(ey l id).toNat<l.length:=by
 rcases au6 l id with ⟨κ,_⟩ | ⟨k,κ,ab,_⟩<;>omega
theorem al2 {f:aE} {l:List dm} {T:List aY} {k:Nat} (h:ey l (T.getD k default).id<0):re f l T k=none:=by unfold re;rw [aR8 h]
theorem aDl {f:aE} {l:List dm} {T:List aY} {k:Nat} (aG:0≤ey l (T.getD k default).id)
  (h:(hq f (T.getD k default).spot (l.getD (ey l (T.getD k default).id).toNat default).bq≠0∨((fU f (T.getD k default).spot (l.getD (ey l (T.getD k default).id).toNat default).bq).length:Int)<2)∨0<jD T ((fU f (T.getD k default).spot (l.getD (ey l (T.getD k default).id).toNat default).bq).getD 1 default)):re f l T k=none:=by
 unfold re;rw [aR5 (by omega)];split
 ·rfl
 ·split
  ·rfl
  ·rw [aR8];rcases h with (h | h) | h
   ·contradiction
   ·omega
   ·exact h
theorem aDm {f:aE} {l:List dm} {T:List aY} {k:Nat} (aG:0≤ey l (T.getD k default).id)
  (h:(hq f (T.getD k default).spot (l.getD (ey l (T.getD k default).id).toNat default).bq=0∧2≤((fU f (T.getD k default).spot (l.getD (ey l (T.getD k default).id).toNat default).bq).length:Int))∧jD T ((fU f (T.getD k default).spot (l.getD (ey l (T.getD k default).id).toNat default).bq).getD 1 default)≤0):
  re f l T k=some ((fU f (T.getD k default).spot (l.getD (ey l (T.getD k default).id).toNat default).bq).getD 1 default):=by
 obtain ⟨⟨κ,ab⟩,aw⟩:=h;unfold re;rw [aR5 (by omega),aR5 (by simpa using κ),aR5 (by omega),aR5 (by omega)]
theorem τ.aJ.azQ {α:Type} {R:τ α} {by_ c:Nat} {w:World} {A:Option Addr} {l:List α} (h:R.aJ by_ w A c l) (hs:0<R.size) (aG:0<l.length):∀ q∈τ.ah A,q<w.heap.size:=by
 obtain ⟨κ,ab,aw,a6,ess,bH,ch,dZ⟩:=h;obtain ⟨b,o,rfl,hc⟩:=dZ aG;intro q I;obtain rfl:q=b:=by simpa [τ.ah] using I
 have ay:0<ess.flatten.length:=by rw [ch];exact Nat.mul_pos aG hs
 have gh:=hc 0 _ (aRX ay);apply aTo;intro hn;have:w.heap[q]? =none:=aSU (by omega);simp [World.cell?,this] at gh
theorem aym (fj:FuncId) (cs:List Value) (p:dm→Bool) (A:Option Addr) (c:Nat) (l:List dm) (w:World) (ay:dm.rep.aJ 24 w A c l) (nL:Enters prog fj) (d_:∀ x∈l,∀ w',Ext w w'→Calls prog fj (([.agg #[.int .i64 x.id, .int .i64 x.bq.x, .int .i64 x.bq.y]]:List Value)++cs).toArray w' λ e lZ=>e= .returned (.bool (p x))∧Ext w' lZ):
  Calls prog 102 #[.slice A l.length c, .func (.func fj) #[] cs.toArray] w (λ e w'=>e= .returned (.int .i64 (gx p l))∧Ext w w'):=by
 have oA:=ay.eE;refine cl (n:=19) func102 Z Z Z ?_;refine aj<|va Z<|ai<|aA<|aj<|vm Z<|J (cG underlying102 Z)<|vm Z<|ai<|bL<| ?_;refine eL (λ cg cf aQ=>∃ k:Nat,cf= [(0, .slice A l.length c),(1, .func (.func fj) #[] cs.toArray),(7, .int .i64 (l.length:Int)),(8, .int .i64 (k:Int))]∧cg=l.length - k∧Ext w aQ∧(k≤l.length)∧(∀ i,i<k→p (l.getD i default)=false)) _ _ ⟨0,Z,Z,(Ext.bN w),by omega,λ i aq=>by omega⟩ (.cons Z (.cons Z (.cons Z (.cons (bW Z) .nil)))) ?_;rintro M5 J7 cC ⟨k,rfl,rfl,bj,ar,aO⟩;have:=bj.size;refine aj<|J (blt Z Z)<|ai<|aA<| ?_;refine dY Z (λ mg=> ?_) (λ mg=> ?_)
 ·refine bu<|aA<|bL<|aj<|vm Z<|va Z<|ai<|aj<|vm Z<|vm Z<|vm Z<|J (b9 k underlying102 VF Z Z ((ay.keep bj).bP (bb k)) Z (by omega))<|J (ao Z (τ.aJ.ik ags ((ay.keep bj).cw (bb k)) (c8 (l:=l) (u:=default) (by omega)) at7 VF))<|PM nL Z Z Z ((d_ (l.getD k default) (jC (by omega)) _ bj).mono ?_);rintro e Jz ⟨rfl,yI⟩;refine ⟨_,Z, ?_⟩;have:=yI.size;have mU:=γ bj yI;refine ai<| ?_;refine ed Z (λ mh=> ?_) (λ mh=> ?_)
  ·refine aj<|vm Z<|va Z<|ai<|rt<|e_<|bT<|nZ<|e_<|bT<|bd (.tmp Z .nil)<| ?_;exact ⟨by have e:=Rq (p:=p) (l:=l) (d:=default) (k:=k) (by omega) mh aO;rw [e];rfl,mU⟩
  ·refine fI<|bY<|aU<|rg<|J (bad Z Z (bD (by omega)))<|vm Z<|nl<| ?_;exact c9 _ _ ⟨k+1,Z,Z,mU,by omega,wu aO mh⟩ (by omega) (.cons Z (.cons Z (.cons Z (.cons (bW Z) .nil))))
 ·refine dw<|du<|dN<|dt<|aU<|aj<|va Z<|ai<|rt<|bd (.tmp Z .nil)<| ?_;exact ⟨by have e:=Rp (p:=p) (l:=l) (d:=default) (λ i aq=>aO i (by omega));rw [e];rfl,bj⟩
theorem az6 (x:dm) (b k:Nat) (A:Option Addr) (c:Nat) (T:List aY) (w:World) (aN:aP w b [.pointer (some ⟨eU A,la A+k * 7,none⟩)] 206 (0,0)) (b6:aY.rep.aJ 56 w A c T) (ar:k<T.length):
  Calls prog 103 #[.agg #[.int .i64 x.id, .int .i64 x.bq.x, .int .i64 x.bq.y], .pointer (some ⟨b,0,none⟩)] w (λ e w'=>e= .returned (.bool (x.id == (T.getD k default).id))∧Ext w w'):=by
 have yp:=aN.lt;refine cl (n:=11) func103 Z Z Z ?_;refine aj<|cA Z Z Z Z λ cC bF a8 ef aa=> ?_;have:=a8.size;have bj:=γ (Ext.bN w) a8;have ei:=aa.lt;refine va Z<|ai<|aA<| ?_;refine rd [(1,0),(2,0),(5,0)] [0,1,2,3,4,5,6,7] (by kernel_rfl) (by kernel_rfl) ?_;refine au Z (λ _=>av at8 Z)<|bJ Z (λ _ x=>ao Z ((aa.later x).one bc Z))<| ?_;have aN:=aN.later a8;refine bJ Z (λ _ x=>ao Z ((aN.later x).one HU Z))<|au Z (λ _=>b0 Z)<|au Z (λ _=>av FF Z)<|bJ Z (λ _ x=>ao Z (τ.aJ.kx j0 ((b6.keep (γ bj x)).cw (bb k)) 0 (c8 (l:=T) (u:=default) (by omega)) Z bc))<|au Z (λ _=>beq Z Z)<|au Z (λ _=>fF Z)<|fn λ ew cz=> ?_;have:=cz.size;have bO:=γ bj cz;refine aU<|rt<|bd (.tmp Z .nil)<| ?_;exact ⟨Z,bO⟩
theorem az5 (b k:Nat) (l:List dm) (A:Option Addr) (c:Nat) (O':Option Addr) (tc:Nat) (T:List aY) (w:World) (ay:dm.rep.aJ 24 w A c l) (aN:aP w b [.pointer (some ⟨eU O',la O'+k * 7,none⟩)] 206 (0,0)) (b6:aY.rep.aJ 56 w O' tc T) (ar:k<T.length):
  Calls prog 102 #[.slice A l.length c, .func (.func 103) #[] #[.pointer (some ⟨b,0,none⟩)]] w (λ e w'=>e= .returned (.int .i64 (ey l (T.getD k default).id))∧Ext w w'):=
 aym 103 [.pointer (some ⟨b,0,none⟩)] (λ g=>g.id == (T.getD k default).id) A c l w ay at9 (λ x hx w' h=>az6 x b k O' tc T w' (aN.later h) (b6.keep h) ar)
theorem aDu (w0:World) (a:ae.b2) (W:ae) (A:Option Addr) (c:Nat) (l:List dm) (w:World) (cj:bQ.aJ 8 w a.P a.p W.field.aW) (b6:aY.rep.aF 57 56 w w0.heap.size (τ.ah a.T) a.T a.t W.ak) (awp:∀ q∈τ.ah a.P,q∉τ.ah a.T) (ay:dm.rep.aJ 24 w A c l) (Im:0<l.length→∀ q∈τ.ah A,q∉τ.ah a.T) (BF:W.ak.length≤100000):
  Calls prog 61 #[.agg ((ae.cells a W).toArray), .slice A l.length c] w (λ e w'=>∃ bK b5,e= .returned (.slice bK (W.mv l).2.length b5)∧bQ.aF 3 8 w' w.heap.size (τ.ah bK) bK b5 (W.mv l).2∧aY.rep.aF 57 56 w' w0.heap.size (τ.ah a.T) a.T a.t (W.mv l).1.ak∧Mod (τ.ah a.T) w w'):=by
 have oQ:=λ q I=>(b6.lt q I).2;have aJZ:∀ q∈τ.ah a.T,w0.heap.size≤q:=λ q I=>(b6.lt q I).1;have ahd:=ZK b6.has;refine cl (n:=110) func61 Z Z Z ?_;refine aj<|cA Z Z Z Z λ cC bF a8 ef aa=> ?_;have:=a8.size;have bj:=(Mod.bN (τ.ah a.T) w).trans (Mod.bE a8);have ei:=aa.lt;refine va Z<|ai<|aj<|YC Z λ ew z1 bl il abM=> ?_;have:=bl.size;have bO:=bj.trans (Mod.bE bl);have hW:=abM.lt;have an9:=kZ.of_nil abM;refine va Z<|ai<|aA<|aj<|J (av ku Z)<| ?_;have aa:=aa.later bl;refine J (ao Z (aa.one ma Z))<|J (cG underlying26 Z)<|vm Z<|ai<|bL<| ?_;have b6:=b6.later (γ a8 bl);refine eL (λ cg cf aQ=>∃ k:Nat,cf= [(1, .slice A l.length c),(2, .pointer (some ⟨bF,0,none⟩)),(4, .slice none 0 0),(5, .map (some z1)),(17, .slice a.T W.ak.length a.t),(18, .int .i64 (W.ak.length:Int)),(19, .int .i64 (k:Int))]∧cg=W.ak.length - k∧Mod (τ.ah a.T) w aQ∧aY.rep.aF 57 56 aQ w0.heap.size (τ.ah a.T) a.T a.t (W.ak)∧aP aQ bF (ae.cells a W) 28 (0,0)∧kZ aQ z1 (jD (W.ak.take k))∧(k≤W.ak.length)) _ _ ⟨0,Z,Z,bO,b6,aa,an9,by omega⟩ (.cons Z (.cons Z (.cons Z (.cons Z (.cons Z (.cons Z (.cons (bW Z) .nil))))))) ?_;rintro qf aHe yB ⟨k,rfl,rfl,kV,b6,aa,gY,ar⟩;have:=kV.size;have NN:=λ q I=>(b6.lt q I).2;have oL:=aa.lt;have R7:=gY.lt;refine aj<|J (blt Z Z)<|ai<|aA<| ?_;refine dY Z (λ rW=> ?_) (λ rW=> ?_)
 ·refine bu<|aA<|bL<|aj<|J (b9 k underlying26 ih Z Z (b6.has.bP (bb k)) Z (by omega))<|J (ao Z (τ.aJ.ik j0 (b6.has.cw (bb k)) (c8 (l:=W.ak) (u:=default) (by omega)) uB ih))<|al Z Bi Z Z λ tM xu cv ajq eC=> ?_;have:=cv.size;have jH:=kV.trans (Mod.bE cv);have ak4:=eC.lt;refine st (new:= [.int .i64 ((W.ak.getD k default).id), .int .i64 ((W.ak.getD k default).owner), .int .i64 ((W.ak.getD k default).kind), .int .i64 ((W.ak.getD k default).spot.x), .int .i64 ((W.ak.getD k default).spot.y), .int .i64 ((W.ak.getD k default).cD), .int .i64 ((W.ak.getD k default).load)]) Z Z eC Z ih Z Z Z λ vd gT eC=> ?_;have:=gT.size;have jI:=jH.md gT (λ q I=> .inr (by have:=aRT.1 I;omega));refine ai<| ?_;have gY:=gY.later cv;have gY:=gY.mod gT aM;refine Za z1 (jD (W.ak.take k)) [(2,0),(3,0),(5,2),(7,3)] [0,1,2,3,4,5,6,7] (by kernel_rfl) (by kernel_rfl) ?_;refine s7 Z Z (λ _=>aK Z) Z<|s7 Z Z (λ _=>av uA Z) Z<|Dl Z Z (λ _ x=>ao Z ((eC.mod x.1 aM).par [.int .i64 ((W.ak.getD k default).spot.x), .int .i64 ((W.ak.getD k default).spot.y)] cm bU Z)) Z<|Dl Z Z (λ _ x=>Rz (p:=(W.ak.getD k default).spot) (x.2 gY) (Ss (ahd k)) Z Z) Z<|s7 Z Z (λ _=>bad Z Z (bD ((by have κ:=RX (W.ak.take k) ((W.ak.getD k default).spot);(try rw [aRZ] at κ);omega)))) Z<|V1 Z Z Z λ NS kQ Q hK=>meC (p:=(W.ak.getD k default).spot) (gY.later kQ) (Ss (ahd k)) Z Z Z λ yD aPO nR TO=>hK _ _ ⟨(pW.bE kQ).trans ⟨nR,λ _=>TO.map⟩, ?_⟩;have:=kQ.size;have sL:=jI.trans (Mod.bE kQ);have:=nR.size;have j_:=sL.md nR (λ q I=> .inr (by have:=aRT.1 I;omega));have aoa:=TO.map;have aB7:=aoa.lt;refine s7 Z Z (λ _=>ex Z Z) Z<|VM Z Z Z λ Jv tR Q hK=>VI (TO.later tR) Z Z Z λ An ji OK=>hK _ _ ?_;have:=tR.size;have vp:=j_.trans (Mod.bE tR);have:=ji.size;have oa:=vp.md ji (λ q I=> .inr (by have:=aRT.1 I;omega));have ak7:=OK.lt;refine VV λ Jx kl=> ?_;have:=kl.size;have vr:=oa.trans (Mod.bE kl);refine bY<|aU<|rg<|J (bad Z Z (bD (by omega)))<|vm Z<|nl<| ?_;have b6:=b6.later cv;have b6:=b6.mod gT (λ q I h=>by have Φ:=aRT.1 h;exfalso;(have:=NN q I;have:=oQ q I;omega));have b6:=b6.later kQ;have b6:=b6.mod nR (λ q I h=>by have Φ:=aRT.1 h;exfalso;(have:=NN q I;have:=oQ q I;omega));have b6:=b6.later tR;have b6:=b6.mod ji (λ q I h=>by have Φ:=aRT.1 h;exfalso;(have:=NN q I;have:=oQ q I;omega));have b6:=b6.later kl;have aa:=aa.later cv;have aa:=aa.mod gT aM;have aa:=aa.later kQ;have aa:=aa.mod nR aM;have aa:=aa.later tR;have aa:=aa.mod ji aM;have aa:=aa.later kl;have OK:=OK.later kl;exact c9 _ _ ⟨k+1,Z,Z,vr,b6,aa,(by rw [aAI (by omega)];exact OK),by omega⟩ (by omega) (.cons Z (.cons Z (.cons Z (.cons Z (.cons Z (.cons Z (.cons (bW Z) .nil)))))))
 ·refine dw<|du<|dN<|dt<|aU<|aj<|va Z<|ai<|aA<|aj<|J (av ku Z)<|J (ao Z (aa.one ma Z))<|J (cG underlying26 Z)<|vm Z<|ai<|bL<| ?_;have k3:k=W.ak.length:=by omega
  subst k3;have abL:kZ yB z1 (jD W.ak):=by have h:=gY;rw [aSv] at h;exact h
  refine eL (λ cg cf aQ=>∃ k:Nat,∃ T:List aY,∃ M:List Int,∃ yV:Option Addr,∃ HI:Nat,cf= [(1, .slice A l.length c),(2, .pointer (some ⟨bF,0,none⟩)),(4, .slice none 0 0),(5, .map (some z1)),(8, .slice yV M.length HI),(33, .int .i64 (W.ak.length:Int)),(34, .int .i64 (k:Int))]∧cg=W.ak.length - k∧Mod (τ.ah a.T) w aQ∧aP aQ bF (ae.cells a W) 28 (0,0)∧kZ aQ z1 (jD T)∧aY.rep.aF 57 56 aQ w0.heap.size (τ.ah a.T) a.T a.t (T)∧bQ.aF 3 8 aQ w.heap.size (τ.ah yV) yV HI (M)∧(k≤W.ak.length)∧(kj W.field l W.ak k=(T,M))∧(T.length=W.ak.length)∧(M.length≤k)∧(∀ q∈τ.ah a.T,q=bF→False)∧(∀ q∈τ.ah a.T,q=z1→False)∧(∀ q∈τ.ah yV,q=bF→False)∧(∀ q∈τ.ah yV,q=z1→False)∧(∀ q∈τ.ah yV,q∈τ.ah a.T→False)) _ _ ⟨0,W.ak, [],none,0,Z,Z,kV,aa,abL,b6,(τ.aF.nil _),by omega,rfl,rfl,by simp,(λ q I Φ=>by (have:=NN q I;have:=oQ q I;omega)),(λ q I Φ=>by (have:=NN q I;have:=oQ q I;omega)),(λ q I Φ=>by (simp [τ.ah] at I)),(λ q I Φ=>by (simp [τ.ah] at I)),(λ q I Φ=>by (simp [τ.ah] at I))⟩ (.cons Z (.cons Z (.cons Z (.cons Z (.cons Z (.cons Z (.cons (bW Z) .nil))))))) ?_;rintro zR aHu JB ⟨k,T,M,yV,HI,rfl,rfl,qF,aa,M2,fg,gi,ar,hS,Wx,aKc,nJ,rN,ux,ot,ou⟩;have:=qF.size;have aPj:=aa.lt;have aPk:=M2.lt;have ZU:=λ q I=>(fg.lt q I).2;have Ag:=λ q I=>(gi.lt q I).2;have Ra:=ZK fg.has;refine aj<|J (blt Z Z)<|ai<|aA<| ?_;refine dY Z (λ LD=> ?_) (λ LD=> ?_)
  ·refine bu<|aA<|bL<|aj<|vm Z<|va Z<|ai<|aj<|J (av ku Z)<|J (ao Z (aa.one ma Z))<|vm Z<|J (b9 k underlying26 ih Z Z (fg.has.bP (bb k)) Z (by omega))<|al Z aua Z Z λ NV acS iY aMP gX=> ?_;have:=iY.size;have yP:=qF.trans (Mod.bE iY);have aPp:=gX.lt;refine st (new:= [.pointer (some ⟨eU a.T,la a.T+k * 7,none⟩)]) Z Z gX Z asE Z Z Z λ S5 zT gX=> ?_;have:=zT.size;have tW:=yP.md zT (λ q I=> .inr (by have:=aRT.1 I;omega));refine ai<|aj<|vm Z<|J (M_ Z Z)<| ?_;have fg:=fg.later iY;have fg:=fg.mod zT (bI ZU);refine ca asF Z Z ((az5 acS k l A c a.T a.t T _ (ay.Rt (τ.dI).1 tW Im) gX fg.has (by omega)).mono ?_);rintro e Z_ ⟨rfl,h'⟩;refine ⟨_,Z, ?_⟩;have:=h'.size;have vv:=tW.trans (Mod.bE h');refine va Z<|ai<|aA<|aj<|vm Z<|J (blt Z Z)<|ai<| ?_;refine dY Z (λ uE=> ?_) (λ uE=> ?_)
   ·refine dw<|du<|dt<|aU<|rg<|J (bad Z Z (bD (by omega)))<|vm Z<|nl<| ?_;have aa:=aa.later iY;have aa:=aa.mod zT aM;have aa:=aa.later h';have M2:=M2.later iY;have M2:=M2.mod zT aM;have M2:=M2.later h';have fg:=fg.later h';have gi:=gi.later iY;have gi:=gi.mod zT (bI Ag);have gi:=gi.later h';exact c9 _ _ ⟨k+1,T,M,yV,HI,Z,Z,vv,aa,M2,fg,gi,by omega,GB hS (al2 uE),Wx,by omega,(λ q I Φ=>by (exact nJ q I Φ)),(λ q I Φ=>by (exact rN q I Φ)),(λ q I Φ=>by (exact ux q I Φ)),(λ q I Φ=>by (exact ot q I Φ)),(λ q I Φ=>by (exact ou q I Φ))⟩ (by omega) (.cons Z (.cons Z (.cons Z (.cons Z (.cons Z (.cons Z (.cons (bW Z) .nil)))))))
   ·obtain ⟨Dz,W'⟩:=au7 uE;refine bu<|aA<| ?_;refine rd [(1,0),(2,0),(5,0),(10,0),(11,2)] [0,1,2,3,4,5,6,7,8,9,10,11,12,13,14,15,16,17,18] (by kernel_rfl) (by kernel_rfl) ?_;refine au Z (λ _=>av s5 Z)<| ?_;have aa:=aa.later iY;have aa:=aa.mod zT aM;have aa:=aa.later h';refine bJ Z (λ _ x=>ao Z ((aa.later x).par [.int .i64 W.field.wide, .int .i64 W.field.high, .slice a.P W.field.aW.length a.p] l_ l' Z))<| ?_;have gX:=gX.later h';refine bJ Z (λ _ x=>ao Z ((gX.later x).one HU Z))<|au Z (λ _=>b0 Z)<|au Z (λ _=>av uA Z)<| ?_;have fg:=fg.later h';refine bJ Z (λ _ x=>ao Z (τ.aJ.part j0 ((fg.later x).has.cw (bb k)) 3 (ds:= [.int .i64 ((T.getD k default).spot.x), .int .i64 ((T.getD k default).spot.y)]) (c8 (l:=T) (u:=default) (by omega)) Z cm bU))<|au Z (λ _=>aK Z)<|au Z (λ _=>aK Z)<|au Z (λ _=>b9 ((ey l (T.getD k default).id).toNat) underlying102 VF Z Z ((ay.Rt (τ.dI).1 vv Im).bP (bb ((ey l (T.getD k default).id).toNat))) (by omega) (by omega))<|au Z (λ _=>av asG Z)<|bJ Z (λ _ x=>ao Z (τ.aJ.part ags ((ay.Rt (τ.dI).1 (vv.trans (Mod.bE x)) Im).cw (bb ((ey l (T.getD k default).id).toNat))) 1 (ds:= [.int .i64 ((l.getD ((ey l (T.getD k default).id).toNat) default).bq.x), .int .i64 ((l.getD ((ey l (T.getD k default).id).toNat) default).bq.y)]) (c8 (l:=l) (u:=default) (by omega)) Z cm bU))<|gv Z Z Z λ S7 gW Q hK=>ca asH Z Z ((aBk W.field ((T.getD k default).spot) ((l.getD ((ey l (T.getD k default).id).toNat) default).bq) _ _ _ (cj.Rt (τ.dI).1 (vv.trans (Mod.bE gW)) (λ _=>awp))).mono ?_);rintro e S9 ⟨aH7,aRS,rfl,oh,n_⟩;refine ⟨_,Z,hK _ _ ⟨γ gW n_, ?_⟩⟩;have:=gW.size;have Aw:=vv.trans (Mod.bE gW);have:=n_.size;have CA:=Aw.trans (Mod.bE n_);have aQI:=λ q I=>(oh.lt q I).2;have ajL:=λ q I=>(oh.lt q I).1;have Rk:=oh.has;refine au Z (λ _=>aK Z)<|au Z (λ _=>ex Z Z)<|au Z (λ _=>ex Z Z)<|au Z (λ _=>ex Z Z)<|au Z (λ _=>fF Z)<|au Z (λ _=>fF Z)<|au Z (λ _=>fF Z)<|fn λ NZ kS=> ?_;have:=kS.size;have wY:=CA.trans (Mod.bE kS);refine aU<|aA<|aj<|vm Z<|J (bne Z Z)<|vm Z<|bs Z Z Z Z (λ hc=>aK Z) Z<|bs Z Z Z Z (λ hc=>cG underlying25 (gt hc Z)) Z<|bs Z Z Z Z (λ hc=>blt (gt hc Z) Z) Z<|J (fB Z Z Z Z)<|vm Z<|bs Z Z Z Z (λ hc=>aK Z) Z<|bs Z Z Z Z (λ hc=>aK Z) Z<| ?_;have oh:=oh.later kS;refine bs Z Z Z Z (λ hc=>b9 1 underlying25 bU (gt hc Z) Z (oh.has.bP (bb 1 (by (try simp only [cE] at hc);omega))) Z (by (try simp only [cE] at hc);omega)) Z<|bs Z Z Z Z (λ hc=>ao (gt hc Z) (τ.aJ.ik BA (oh.has.cw (bb 1 (by (try simp only [cE] at hc);omega))) (c8 (l:=fU W.field ((T.getD k default).spot) ((l.getD ((ey l (T.getD k default).id).toNat) default).bq)) (u:=default) (by (try simp only [cE] at hc);omega)) cm bU)) Z<| ?_;have M2:=M2.later iY;have M2:=M2.mod zT aM;have M2:=M2.later (γ h' (γ gW (γ n_ kS)));refine bs Z Z Z Z (λ hc=>Rz (p:=(fU W.field ((T.getD k default).spot) ((l.getD ((ey l (T.getD k default).id).toNat) default).bq)).getD 1 default) M2 (PG Rk 1) (gt hc Z) (gt hc Z)) Z<|bs Z Z Z Z (λ hc=>iJ (gt hc Z) Z) Z<|J (fB Z Z Z Z)<|ai<| ?_;refine ed Z (λ LG=> ?_) (λ LG=> ?_)
    ·simp only [cE] at LG;refine dw<|du<|dt<|aU<|rg<|J (bad Z Z (bD (by omega)))<|vm Z<|nl<| ?_;have aa:=aa.later (γ gW (γ n_ kS));have fg:=fg.later (γ gW (γ n_ kS));have gi:=gi.later iY;have gi:=gi.mod zT (bI Ag);have gi:=gi.later (γ h' (γ gW (γ n_ kS)));exact c9 _ _ ⟨k+1,T,M,yV,HI,Z,Z,wY,aa,M2,fg,gi,by omega,GB hS (aDl (by omega) LG),Wx,by omega,(λ q I Φ=>by (exact nJ q I Φ)),(λ q I Φ=>by (exact rN q I Φ)),(λ q I Φ=>by (exact ux q I Φ)),(λ q I Φ=>by (exact ot q I Φ)),(λ q I Φ=>by (exact ou q I Φ))⟩ (by omega) (.cons Z (.cons Z (.cons Z (.cons Z (.cons Z (.cons Z (.cons (bW Z) .nil)))))))
    ·simp only [cE] at LG;refine bu<|aA<| ?_;refine Za z1 (jD T) [(1,0),(4,0),(5,0),(7,2),(9,3)] [0,1,2,3,4,5,6,7,8,9] (by kernel_rfl) (by kernel_rfl) ?_;refine s7 Z Z (λ _=>aK Z) Z<| ?_;have gX:=gX.later (γ gW (γ n_ kS));refine Dl Z Z (λ _ x=>ao Z ((gX.mod x.1 aM).one HU Z)) Z<|s7 Z Z (λ _=>b0 Z) Z<|s7 Z Z (λ _=>av uA Z) Z<| ?_;have fg:=fg.later (γ gW (γ n_ kS));refine Dl Z Z (λ _ x=>ao Z (τ.aJ.part j0 ((fg.mod x.1 (λ q I h=>by have Φ:=aRT.1 h;exfalso;(exact rN q I Φ))).has.cw (bb k)) 3 (ds:= [.int .i64 ((T.getD k default).spot.x), .int .i64 ((T.getD k default).spot.y)]) (c8 (l:=T) (u:=default) (by omega)) Z cm bU)) Z<|Dl Z Z (λ _ x=>Rz (p:=(T.getD k default).spot) (x.2 M2) (Ss (Ra k)) Z Z) Z<|s7 Z Z (λ _=>mJ Z Z (bD ((by have κ:=RX T ((T.getD k default).spot);(try rw [aRZ] at κ);omega)))) Z<|V1 Z Z Z λ aad mB Q hK=>meC (p:=(T.getD k default).spot) (M2.later mB) (Ss (Ra k)) Z Z Z λ aES aPM mj TM=>hK _ _ ⟨(pW.bE mB).trans ⟨mj,λ _=>TM.map⟩, ?_⟩;have:=mB.size;have G':=wY.trans (Mod.bE mB);have:=mj.size;have To:=G'.md mj (λ q I=> .inr (by have:=aRT.1 I;omega));have an7:=TM.map;have aOv:=an7.lt;refine s7 Z Z (λ _=>ex Z Z) Z<|VM Z Z Z λ aEU kk Q hK=>VI (TM.later kk) Z Z Z λ aEV uN AH=>hK _ _ ?_;have:=kk.size;have aan:=To.trans (Mod.bE kk);have:=uN.size;have aao:=aan.md uN (λ q I=> .inr (by have:=aRT.1 I;omega));have aOA:=AH.lt;refine VV λ Z3 Ex=> ?_;have:=Ex.size;have At:=aao.trans (Mod.bE Ex);refine aU<|aA<| ?_;refine rd [(0,0),(3,0),(6,3)] [0,1,2,3,4,5,6] (by kernel_rfl) (by kernel_rfl) ?_;have gX:=gX.later mB;have gX:=gX.mod mj aM;have gX:=gX.later kk;have gX:=gX.mod uN aM;have gX:=gX.later Ex;refine bJ Z (λ _ x=>ao Z ((gX.later x).one HU Z))<|au Z (λ _=>aK Z)<| ?_;have oh:=oh.later mB;have oh:=oh.mod mj (bB ajL);have oh:=oh.later kk;have oh:=oh.mod uN (bB ajL);have oh:=oh.later Ex;refine au Z (λ _=>b9 1 underlying25 bU Z Z (oh.has.bP (bb 1)) Z (by omega))<|bJ Z (λ _ x=>ao Z (τ.aJ.ik BA ((oh.later x).has.cw (bb 1)) (c8 (l:=fU W.field ((T.getD k default).spot) ((l.getD ((ey l (T.getD k default).id).toNat) default).bq)) (u:=default) (by omega)) cm bU))<|au Z (λ _=>b0 Z)<|au Z (λ _=>av uA Z)<| ?_;have fg:=fg.later mB;have fg:=fg.mod mj (λ q I h=>by have Φ:=aRT.1 h;exfalso;(exact rN q I Φ));have fg:=fg.later kk;have fg:=fg.mod uN (λ q I h=>by have Φ:=aRT.1 h;exfalso;(exact rN q I Φ));have fg:=fg.later Ex;refine eK Z Z Z λ Z4 GQ Q hK=>aDa (q:=(T).getD k default) (q':=(⟨((T).getD k default).id,((T).getD k default).owner,((T).getD k default).kind,⟨((fU W.field ((T.getD k default).spot) ((l.getD ((ey l (T.getD k default).id).toNat) default).bq)).getD 1 default).x,((fU W.field ((T.getD k default).spot) ((l.getD ((ey l (T.getD k default).id).toNat) default).bq)).getD 1 default).y⟩,((T).getD k default).cD,((T).getD k default).load⟩:aY)) (i:=k) (j:=3) (old:= [.int .i64 (((T).getD k default).id), .int .i64 (((T).getD k default).owner), .int .i64 (((T).getD k default).kind), .int .i64 (((T).getD k default).spot.x), .int .i64 (((T).getD k default).spot.y), .int .i64 (((T).getD k default).cD), .int .i64 (((T).getD k default).load)]) (part:= [.int .i64 (((fU W.field ((T.getD k default).spot) ((l.getD ((ey l (T.getD k default).id).toNat) default).bq)).getD 1 default).x), .int .i64 (((fU W.field ((T.getD k default).spot) ((l.getD ((ey l (T.getD k default).id).toNat) default).bq)).getD 1 default).y)]) (es:= [.int .i64 (((T).getD k default).id), .int .i64 (((T).getD k default).owner), .int .i64 (((T).getD k default).kind), .int .i64 (((fU W.field ((T.getD k default).spot) ((l.getD ((ey l (T.getD k default).id).toNat) default).bq)).getD 1 default).x), .int .i64 (((fU W.field ((T.getD k default).spot) ((l.getD ((ey l (T.getD k default).id).toNat) default).bq)).getD 1 default).y), .int .i64 (((T).getD k default).cD), .int .i64 (((T).getD k default).load)]) (fg.later GQ) τ.dI (c8 (l:=T) (u:=default) (by omega)) j0 Z Z Z Z Z Z (λ _=>⟨Z,(aDH (Ra k) (PG Rk 1))⟩) bU λ aQY IK oi=>hK _ _ ?_;have:=GQ.size;have wW:=At.trans (Mod.bE GQ);have:=IK.size;have aFW:=wW.md IK (λ q I=> .inl I);refine fn λ aEZ l1=> ?_;have:=l1.size;have aar:=aFW.trans (Mod.bE l1);refine aU<|aA<| ?_;have AH:=AH.later (γ Ex GQ);have AH:=AH.mod IK (λ I=>rN _ I rfl);have AH:=AH.later l1;refine Za z1 (tL (jD T) ((T.getD k default).spot) (((jD T) ((T.getD k default).spot)) - 1)) [(1,0),(4,0),(5,0),(7,2),(9,3)] [0,1,2,3,4,5,6,7,8,9] (by kernel_rfl) (by kernel_rfl) ?_;refine s7 Z Z (λ _=>aK Z) Z<| ?_;have gX:=gX.later GQ;have arz:∀ q∈τ.ah a.T,q=acS→False:=λ q I Φ=>by (have:=ZU q I;omega)
     have gX:=gX.mod IK (λ I=>arz _ I rfl);have gX:=gX.later l1;refine Dl Z Z (λ _ x=>ao Z ((gX.mod x.1 aM).one HU Z)) Z<|s7 Z Z (λ _=>b0 Z) Z<|s7 Z Z (λ _=>av uA Z) Z<| ?_;have oi:=oi.later l1;refine Dl Z Z (λ _ x=>ao Z (τ.aJ.part j0 ((oi.mod x.1 (λ q I h=>by have Φ:=aRT.1 h;exfalso;(exact rN q I Φ))).has.cw (bb k (by rw [aR4];omega))) 3 (ds:= [.int .i64 (((T.getD k default).bq ((fU W.field (T.getD k default).spot (l.getD (ey l (T.getD k default).id).toNat default).bq).getD 1 default)).spot.x), .int .i64 (((T.getD k default).bq ((fU W.field (T.getD k default).spot (l.getD (ey l (T.getD k default).id).toNat default).bq).getD 1 default)).spot.y)]) (aSl (by omega)) Z cm bU)) Z<|Dl Z Z (λ _ x=>Rz (p:=((T.getD k default).bq ((fU W.field (T.getD k default).spot (l.getD (ey l (T.getD k default).id).toNat default).bq).getD 1 default)).spot) (x.2 AH) (PG Rk 1) Z Z) Z<|s7 Z Z (λ _=>bad Z Z (bD ((by have aG:=RX T ((T.getD k default).spot);have κ:=aEp (x:=((T.getD k default).spot)) (v:=(((jD T) ((T.getD k default).spot)) - 1)) (RX T) (by omega) (by omega) (((T.getD k default).bq ((fU W.field (T.getD k default).spot (l.getD (ey l (T.getD k default).id).toNat default).bq).getD 1 default)).spot);omega)))) Z<|V1 Z Z Z λ amM hD Q hK=>meC (p:=((T.getD k default).bq ((fU W.field (T.getD k default).spot (l.getD (ey l (T.getD k default).id).toNat default).bq).getD 1 default)).spot) (AH.later hD) (PG Rk 1) Z Z Z λ amN aPN Gh TN=>hK _ _ ⟨(pW.bE hD).trans ⟨Gh,λ _=>TN.map⟩, ?_⟩;have:=hD.size;have Oa:=aar.trans (Mod.bE hD);have:=Gh.size;have Ob:=Oa.md Gh (λ q I=> .inr (by have:=aRT.1 I;omega));have an8:=TN.map;have aOK:=an8.lt;refine s7 Z Z (λ _=>ex Z Z) Z<|VM Z Z Z λ amP GV Q hK=>VI (TN.later GV) Z Z Z λ aE2 zM Hh=>hK _ _ ?_;have:=GV.size;have Oc:=Ob.trans (Mod.bE GV);have:=zM.size;have aat:=Oc.md zM (λ q I=> .inr (by have:=aRT.1 I;omega));have aOO:=Hh.lt;refine VV λ aQ8 wU=> ?_;have:=wU.size;have aF5:=aat.trans (Mod.bE wU);refine aU<|rg<|vm Z<| ?_;have gX:=gX.later hD;have gX:=gX.mod Gh aM;have gX:=gX.later GV;have gX:=gX.mod zM aM;have gX:=gX.later wU;refine J (ao Z (gX.one HU Z))<|J (b0 Z)<|J (av FF Z)<| ?_;have oi:=oi.later hD;have oi:=oi.mod Gh (λ q I h=>by have Φ:=aRT.1 h;exfalso;(exact rN q I Φ));have oi:=oi.later GV;have oi:=oi.mod zM (λ q I h=>by have Φ:=aRT.1 h;exfalso;(exact rN q I Φ));have oi:=oi.later wU;refine J (ao Z (τ.aJ.kx j0 (oi.has.cw (bb k (by rw [aR4];omega))) 0 (aSl (by omega)) Z bc))<|cX (e:= 3) (cs:= [.int .i64 (((T.getD k default).bq ((fU W.field (T.getD k default).spot (l.getD (ey l (T.getD k default).id).toNat default).bq).getD 1 default)).id)]) Z (λ _=>by kernel_rfl) Z λ amR apV qy ay8 JY=> ?_;have:=qy.size;have Oe:=aF5.trans (Mod.bE qy);have aBY:=JY.lt;have gi:=gi.later iY;have gi:=gi.mod zT (bI Ag);have gi:=gi.later (γ h' (γ gW (γ n_ (γ kS mB))));have gi:=gi.mod mj (λ q I h=>by have Φ:=aRT.1 h;exfalso;(exact ot q I Φ));have gi:=gi.later kk;have gi:=gi.mod uN (λ q I h=>by have Φ:=aRT.1 h;exfalso;(exact ot q I Φ));have gi:=gi.later (γ Ex GQ);have gi:=gi.mod IK (λ q I h=>ou q I h);have gi:=gi.later (γ l1 hD);have gi:=gi.mod Gh (λ q I h=>by have Φ:=aRT.1 h;exfalso;(exact ot q I Φ));have gi:=gi.later GV;have gi:=gi.mod zM (λ q I h=>by have Φ:=aRT.1 h;exfalso;(exact ot q I Φ));have gi:=gi.later (γ wU qy);refine ap aoY τ.dI gi (aP.gS (R:=bQ) (by_:=8) (q:=((T.getD k default).bq ((fU W.field (T.getD k default).spot (l.getD (ey l (T.getD k default).id).toNat default).bq).getD 1 default)).id) JY ⟨Z,bM.2 (bM.1 (Ra k).1)⟩ (by decide)) Z Z (by simp only [aR0,aR6];omega) (by simp only [aR0,aR6];omega) (by omega) Z λ aE4 anQ aqG IP acd V5 aNO=> ?_;have:=IP.size;have aav:=Oe.md IP (λ q I=> .inr ((λ q I=>aSs (by omega) (gi.lt q I).1) q I));have aEc:=λ q I=>(acd.lt q I).2;have:=IP.size;refine va Z<|nl<|bY<|aU<|rg<|J (bad Z Z (bD (by omega)))<|vm Z<|nl<| ?_;have Wv:=NG hS (aDm (by omega) LG);have aa:=aa.later (γ gW (γ n_ (γ kS mB)));have aa:=aa.mod mj aM;have aa:=aa.later kk;have aa:=aa.mod uN aM;have aa:=aa.later (γ Ex GQ);have aa:=aa.mod IK (λ I=>nJ _ I rfl);have aa:=aa.later (γ l1 hD);have aa:=aa.mod Gh aM;have aa:=aa.later GV;have aa:=aa.mod zM aM;have aa:=aa.later (γ wU qy);have aa:=aa.mod IP (λ I=>ux _ I rfl);have Hh:=Hh.later (γ wU qy);have Hh:=Hh.mod IP (λ I=>ot _ I rfl);have oi:=oi.later qy;have oi:=oi.mod IP (λ q I h=>ou q h I);exact c9 _ _ ⟨k+1,(T).set k ((⟨((T).getD k default).id,((T).getD k default).owner,((T).getD k default).kind,⟨((fU W.field ((T.getD k default).spot) ((l.getD ((ey l (T.getD k default).id).toNat) default).bq)).getD 1 default).x,((fU W.field ((T.getD k default).spot) ((l.getD ((ey l (T.getD k default).id).toNat) default).bq)).getD 1 default).y⟩,((T).getD k default).cD,((T).getD k default).load⟩:aY)),M++ [((T.getD k default).bq ((fU W.field (T.getD k default).spot (l.getD (ey l (T.getD k default).id).toNat default).bq).getD 1 default)).id],anQ,aqG,Z,Z,aav,aa,(by rw [aAG (by omega)];exact Hh),oi,acd,by omega,Wv,by rw [aR4];exact Wx,by rw [aR1,aSS];omega,(λ q I Φ=>by (exact nJ q I Φ)),(λ q I Φ=>by (exact rN q I Φ)),(λ q I Φ=>by (exact aR9 (V5 q I) (λ aib=>by (exact ux q aib Φ)) (λ aib=>by omega))),(λ q I Φ=>by (exact aR9 (V5 q I) (λ aic=>by (exact ot q aic Φ)) (λ aic=>by omega))),(λ q I Φ=>by (exact aR9 (V5 q I) (λ aid=>by (exact ou q aid Φ)) (λ aid=>by (have:=ZU q Φ;omega))))⟩ (by omega) (.cons Z (.cons Z (.cons Z (.cons Z (.cons Z (.cons Z (.cons (bW Z) .nil)))))))
  ·refine dw<|du<|dN<|dt<|aU<|aj<|vm Z<|va Z<|ai<|rt<|bd (.tmp Z .nil)<| ?_;have k3:k=W.ak.length:=by omega
   subst k3;have aZ:(W.mv l).2=M:=by show (kj _ _ _ _).2=M;rw [hS]
   have bh:(W.mv l).1.ak=T:=by show (kj _ _ _ _).1=T;rw [hS]
   exact ⟨yV,HI,by rw [aZ];rfl,by rw [aZ];exact gi,by rw [bh];exact fg,qF⟩
end
section
def aHE (W:ae) (p:aY→Bool) (w:World) (e:Ending) (w':World):Prop:=e= .returned (.tuple #[.int .i64 (aFi W p), .bool (am7 W p), .int .i64 W.bm])∧Below w.heap.size w w'
end
section
theorem bo.aAh {w aT:World} {aD:Nat} {a:ae.b2} {W:ae} {l:List aY} (h:bo w aD a W) (m:Mod (τ.ah a.T) w aT) (b6:aY.rep.aF 57 56 aT aD (τ.ah a.T) a.T a.t l):bo aT aD a {W with ak:=l}:=by
 have hn:=(aSN.1 h.apart).2.2;have d:∀ q∈τ.ah a.P++τ.ah a.B++τ.ah a.S++τ.ah a.M,q∉τ.ah a.T:=λ q I aC=>hn q I q aC rfl;exact ⟨h.P.mod m (λ q I=>d q (by simp [I])),h.B.mod m (λ q I=>d q (by simp [I])),h.S.mod m (λ q I=>d q (by simp [I])),h.M.mod m (λ q I=>d q (by simp [I])),b6,h.apart,h.nums⟩
theorem auE {w:World} {aD:Nat} {a:ae.b2} {W:ae} (h:bo w aD a W):∀ q∈τ.ah a.P,q∉τ.ah a.T:=λ q I aC=>(aSN.1 h.apart).2.2 q (by simp [I]) q aC rfl
theorem aAl (w0:World) (a:ae.b2) (W:ae) (A:Option Addr) (c:Nat) (l:List dm) (w:World) (QE:bo w w0.heap.size a W) (ay:dm.rep.aJ 24 w A c l) (Im:0<l.length→∀ q∈τ.ah A,q∉τ.ah a.T) (BF:W.ak.length≤100000):
  Calls prog 61 #[.agg (ae.cells a W).toArray, .slice A l.length c] w (λ e w'=>∃ bK b5,e= .returned (.slice bK (W.mv l).2.length b5)∧bQ.aF 3 8 w' w.heap.size (τ.ah bK) bK b5 (W.mv l).2∧bo w' w0.heap.size a (W.mv l).1∧Mod (τ.ah a.T) w w'):=by
 refine (aDu w0 a W A c l w QE.P.has QE.T (auE QE) ay Im BF).mono ?_;rintro e w' ⟨bK,b5,rfl,κ,ab,aw⟩;exact ⟨bK,b5,Z,κ,QE.aAh aw ab,aw⟩
theorem ZE (W:ae) (l:List dm):(W.mv l).1.ak.length=W.ak.length:=(Sv _).1
theorem aDv (a:ae.b2) (W:ae) (l:List dm):ae.cells a W=ae.cells a (W.mv l).1:=by
 unfold ae.cells;rw [ZE];rfl
def q7 (W:ae) (l:List dm):Int:=if W.bm≠0 then W.bm else if 200<l.length then 2 else 0
noncomputable def gK (W:ae) (l:List dm):ae:=if q7 W l≠0 then ae.zero else (W.mv l).1
noncomputable def pw (W:ae) (l:List dm):List Int:=if q7 W l≠0 then [] else (W.mv l).2
theorem aj2 {W:ae} {l:List dm} (h:¬ W.bm=0):q7 W l=W.bm∧gK W l=ae.zero∧pw W l= []:=by
 have e:q7 W l=W.bm:=by unfold q7;rw [aR8 h]
 unfold gK pw;rw [e,aR8 h,aR8 h];exact ⟨Z,Z,Z⟩
theorem aj3 {W:ae} {l:List dm} (h:W.bm=0) (ay:(200:Int)<(l.length:Int)):q7 W l=2∧gK W l=ae.zero∧pw W l= []:=by
 have e:q7 W l=2:=by unfold q7;rw [aR5 (by omega),aR8 (by omega)]
 unfold gK pw;rw [e];exact ⟨Z,Z,Z⟩
theorem RL {W:ae} {l:List dm} (h:W.bm=0) (ay:(l.length:Int)≤200):q7 W l=0∧gK W l=(W.mv l).1∧pw W l=(W.mv l).2:=by
 have e:q7 W l=0:=by unfold q7;rw [aR5 (by omega),aR5 (by omega)]
 unfold gK pw;rw [e];exact ⟨Z,Z,Z⟩
noncomputable def alh (g:dm):Nat→ae→Nat
 | 0,_=>0
 | n+1,W=>if (W.mv [g]).2.length=0 then 0 else alh g n (W.mv [g]).1+1
noncomputable def ali (g:dm):Nat→ae→ae
 | 0,W=>W
 | n+1,W=>if (W.mv [g]).2.length=0 then (W.mv [g]).1 else ali g n (W.mv [g]).1
def alg (W:ae) (id n:Int):Int:=if W.bm≠0 then W.bm else if n<0∨200<n then 1 else if am7 W (hz id)=false then 7 else 0
noncomputable def aPD (W:ae) (id:Int) (bq:ax) (n:Int):ae:=if alg W id n≠0 then ae.zero else ali ⟨id,⟨bq.x,bq.y⟩⟩ n.toNat W
noncomputable def aPC (W:ae) (id:Int) (bq:ax) (n:Int):Nat:=if alg W id n≠0 then 0 else alh ⟨id,⟨bq.x,bq.y⟩⟩ n.toNat W
theorem aAi (a:ae.b2) (W:ae) (w:World) (bG:ae.Has w a W):
  Calls prog 60 #[.agg ((ae.cells a W).toArray)] w (λ e w'=>∃ a':ae.b2,e= .returned (.agg (ae.cells a' W).toArray)∧bo w' w.heap.size a' W∧Ext w w'):=by
 refine cl (n:=26) func60 Z Z Z ?_;refine aj<|cA Z Z Z Z λ cC bF a8 ef aa=> ?_;have:=a8.size;have bj:=γ (Ext.bN w) a8;have ei:=aa.lt;refine al Z ov Z Z λ ew cu bl il ag=> ?_;have:=bl.size;have bO:=γ bj bl;have hW:=ag.lt;refine ai<|aj<|J (av s5 Z)<|J (av Bh Z)<| ?_;have aa:=aa.later bl;refine J (ao Z (aa.one gu Z))<|ca Bj Z Z ((vK _ _ W.field.aW _ (bG.P.keep bO)).mono ?_);rintro e u' ⟨mV,m4,rfl,eY,axj,iU⟩;refine ⟨_,Z, ?_⟩;have:=iU.size;have hE:=γ bO iU;have nr:=λ q I=>(eY.lt q I).2;have nb:=λ q I=>(eY.lt q I).1;refine J (av s5 Z)<|J (av Bh Z)<| ?_;have aa:=aa.later iU;refine st (new:= [.int .i64 W.field.wide, .int .i64 W.field.high, .slice mV ((W.field.aW).length) m4, .slice a.B W.aV.length a.b, .slice a.S W.ba.length a.s, .slice a.M W.bk.length a.m, .slice a.T W.ak.length a.t, .int .i64 W.next, .int .i64 W.now]) Z Z aa Z xH Z Z Z λ Al qg aa=> ?_;have:=qg.size;have lJ:=Ext.mod hE qg bt;refine ai<|aA<| ?_;refine rd [(1,0),(2,2),(4,0),(5,2),(7,3),(9,3)] [0,1,3,4,2,6,5,7,8,9] (by kernel_rfl) (by kernel_rfl) ?_;refine au Z (λ _=>av uC Z)<|bJ Z (λ _ x=>ao Z ((aa.later x).one zw Z))<|au Z (λ _=>av vU Z)<|bJ Z (λ _ x=>ao Z ((aa.later x).one gu Z))<|gv Z Z Z λ sA cv Q hK=>ca VC Z Z ((PJ _ _ W.aV _ (bG.B.keep (γ lJ cv))).mono ?_);rintro e Ci ⟨tX,uu,rfl,fK,axk,iV⟩;refine ⟨_,Z,hK _ _ ⟨γ cv iV, ?_⟩⟩;have:=cv.size;have jo:=γ lJ cv;have:=iV.size;have pG:=γ jo iV;have Ae:=λ q I=>(fK.lt q I).2;have uL:=λ q I=>(fK.lt q I).1;refine au Z (λ _=>av uC Z)<|gv Z Z Z λ GI ll Q hK=>ca Bj Z Z ((vK _ _ W.ba _ (bG.S.keep (γ pG ll))).mono ?_);rintro e wQ ⟨w_,xy,rfl,fL,axl,eP⟩;refine ⟨_,Z,hK _ _ ⟨γ ll eP, ?_⟩⟩;have:=ll.size;have rr:=γ pG ll;have:=eP.size;have mC:=γ rr eP;have Ej:=λ q I=>(fL.lt q I).2;have si:=λ q I=>(fL.lt q I).1;have aa:=aa.later (γ cv (γ iV (γ ll eP)));refine eK Z Z Z λ wR eQ Q hK=>st (new:= [.int .i64 W.field.wide, .int .i64 W.field.high, .slice mV ((W.field.aW).length) m4, .slice tX ((W.aV).length) uu, .slice a.S W.ba.length a.s, .slice a.M W.bk.length a.m, .slice a.T W.ak.length a.t, .int .i64 W.next, .int .i64 W.now]) Z Z (aa.later eQ) Z VD Z Z Z λ Jv hL aa=>hK _ _ ?_;have:=eQ.size;have jJ:=γ mC eQ;have:=hL.size;have vp:=Ext.mod jJ hL bt;refine au Z (λ _=>av vU Z)<|eK Z Z Z λ Ao eR Q hK=>st (new:= [.int .i64 W.field.wide, .int .i64 W.field.high, .slice mV ((W.field.aW).length) m4, .slice tX ((W.aV).length) uu, .slice w_ ((W.ba).length) xy, .slice a.M W.bk.length a.m, .slice a.T W.ak.length a.t, .int .i64 W.next, .int .i64 W.now]) Z Z (aa.later eR) Z xH Z Z Z λ GL gU aa=>hK _ _ ?_;have:=eR.size;have lq:=γ vp eR;have:=gU.size;have oU:=Ext.mod lq gU bt;refine fn λ sB ek=> ?_;have:=ek.size;have i_:=γ oU ek;refine aU<|aA<| ?_;refine rd [(1,0),(2,2),(4,0),(5,2),(7,3),(9,3)] [0,1,3,4,2,6,5,7,8,9] (by kernel_rfl) (by kernel_rfl) ?_;refine au Z (λ _=>av Bk Z)<| ?_;have aa:=aa.later ek;refine bJ Z (λ _ x=>ao Z ((aa.later x).one gu Z))<|au Z (λ _=>av ku Z)<|bJ Z (λ _ x=>ao Z ((aa.later x).one ma Z))<|gv Z Z Z λ JA iv Q hK=>ca Bj Z Z ((vK _ _ W.bk _ (bG.M.keep (γ i_ iv))).mono ?_);rintro e JD ⟨AB,o4,rfl,js,axm,hZ⟩;refine ⟨_,Z,hK _ _ ⟨γ iv hZ, ?_⟩⟩;have:=iv.size;have vt:=γ i_ iv;have:=hZ.size;have qG:=γ vt hZ;have SK:=λ q I=>(js.lt q I).2;have tr:=λ q I=>(js.lt q I).1;refine au Z (λ _=>av Bk Z)<|gv Z Z Z λ Z8 hO Q hK=>ca VE Z Z ((PK _ _ W.ak _ (bG.T.keep (γ qG hO))).mono ?_);rintro e JF ⟨EM,C9,rfl,jt,axn,gN⟩;refine ⟨_,Z,hK _ _ ⟨γ hO gN, ?_⟩⟩;have:=hO.size;have G6:=γ qG hO;have:=gN.size;have sO:=γ G6 gN;have tK:=λ q I=>(jt.lt q I).2;have sj:=λ q I=>(jt.lt q I).1;have aa:=aa.later (γ iv (γ hZ (γ hO gN)));refine eK Z Z Z λ amW oS Q hK=>st (new:= [.int .i64 W.field.wide, .int .i64 W.field.high, .slice mV ((W.field.aW).length) m4, .slice tX ((W.aV).length) uu, .slice w_ ((W.ba).length) xy, .slice AB ((W.bk).length) o4, .slice a.T W.ak.length a.t, .int .i64 W.next, .int .i64 W.now]) Z Z (aa.later oS) Z xH Z Z Z λ Es hb aa=>hK _ _ ?_;have:=oS.size;have Ol:=γ sO oS;have:=hb.size;have qH:=Ext.mod Ol hb bt;refine au Z (λ _=>av ku Z)<|eK Z Z Z λ S7 gW Q hK=>st (new:= [.int .i64 W.field.wide, .int .i64 W.field.high, .slice mV ((W.field.aW).length) m4, .slice tX ((W.aV).length) uu, .slice w_ ((W.ba).length) xy, .slice AB ((W.bk).length) o4, .slice EM ((W.ak).length) C9, .int .i64 W.next, .int .i64 W.now]) Z Z (aa.later gW) Z K7 Z Z Z λ JG qj aa=>hK _ _ ?_;have:=gW.size;have Aw:=γ qH gW;have:=qj.size;have lr:=Ext.mod Aw qj bt;refine fn λ S_ gz=> ?_;have:=gz.size;have CB:=γ lr gz;refine aU<|aj<| ?_;have aa:=aa.later gz;refine J (ao Z (aa.all dc b3))<| ?_;have ag:=ag.later iU;have ag:=ag.mod qg aM;have ag:=ag.later (γ cv (γ iV (γ ll (γ eP eQ))));have ag:=ag.mod hL aM;have ag:=ag.later eR;have ag:=ag.mod gU aM;have ag:=ag.later (γ ek (γ iv (γ hZ (γ hO (γ gN oS)))));have ag:=ag.mod hb aM;have ag:=ag.later gW;have ag:=ag.mod qj aM;have ag:=ag.later gz;refine st (new:= [.int .i64 W.field.wide, .int .i64 W.field.high, .slice mV ((W.field.aW).length) m4, .slice tX ((W.aV).length) uu, .slice w_ ((W.ba).length) xy, .slice AB ((W.bk).length) o4, .slice EM ((W.ak).length) C9, .int .i64 W.next, .int .i64 W.now]) Z Z ag Z b3 Z Z Z λ aab ng ag=> ?_;have:=ng.size;have G_:=Ext.mod CB ng bt;refine ai<|rt<|bd (.cell Z (ag.all dc b3) .nil)<| ?_;have eY:=eY.mod qg (bB nb);have eY:=eY.later (γ cv (γ iV (γ ll (γ eP eQ))));have eY:=eY.mod hL (bB nb);have eY:=eY.later eR;have eY:=eY.mod gU (bB nb);have eY:=eY.later (γ ek (γ iv (γ hZ (γ hO (γ gN oS)))));have eY:=eY.mod hb (bB nb);have eY:=eY.later gW;have eY:=eY.mod qj (bB nb);have eY:=eY.later gz;have eY:=eY.mod ng (bB nb);have fK:=fK.later (γ ll (γ eP eQ));have fK:=fK.mod hL (bB uL);have fK:=fK.later eR;have fK:=fK.mod gU (bB uL);have fK:=fK.later (γ ek (γ iv (γ hZ (γ hO (γ gN oS)))));have fK:=fK.mod hb (bB uL);have fK:=fK.later gW;have fK:=fK.mod qj (bB uL);have fK:=fK.later gz;have fK:=fK.mod ng (bB uL);have fL:=fL.later eQ;have fL:=fL.mod hL (bB si);have fL:=fL.later eR;have fL:=fL.mod gU (bB si);have fL:=fL.later (γ ek (γ iv (γ hZ (γ hO (γ gN oS)))));have fL:=fL.mod hb (bB si);have fL:=fL.later gW;have fL:=fL.mod qj (bB si);have fL:=fL.later gz;have fL:=fL.mod ng (bB si);have js:=js.later (γ hO (γ gN oS));have js:=js.mod hb (bB tr);have js:=js.later gW;have js:=js.mod qj (bB tr);have js:=js.later gz;have js:=js.mod ng (bB tr);have jt:=jt.later oS;have jt:=jt.mod hb (bB sj);have jt:=jt.later gW;have jt:=jt.mod qj (bB sj);have jt:=jt.later gz;have jt:=jt.mod ng (bB sj);have hR:=bo.YI (aD:=w.heap.size) (eY.down (by omega)) (fK.down (by omega)) (fL.down (by omega)) (js.down (by omega)) (jt.down (by omega)) (λ q κ ab=>by exfalso;(have:=uL q κ;(have:=nr q ab;omega))) (λ q κ ab=>by exfalso;(have:=si q κ;(have:=nr q ab;omega))) (λ q κ ab=>by exfalso;(have:=si q κ;(have:=Ae q ab;omega))) (λ q κ ab=>by exfalso;(have:=tr q κ;(have:=nr q ab;omega))) (λ q κ ab=>by exfalso;(have:=tr q κ;(have:=Ae q ab;omega))) (λ q κ ab=>by exfalso;(have:=tr q κ;(have:=Ej q ab;omega))) (λ q κ ab=>by exfalso;(have:=sj q κ;(have:=nr q ab;omega))) (λ q κ ab=>by exfalso;(have:=sj q κ;(have:=Ae q ab;omega))) (λ q κ ab=>by exfalso;(have:=sj q κ;(have:=Ej q ab;omega))) (λ q κ ab=>by exfalso;(have:=sj q κ;(have:=SK q ab;omega))) bG.nums;exact ⟨⟨mV,tX,w_,AB,EM,m4,uu,xy,o4,C9⟩,Z,hR,G_⟩
theorem aAk (a:ae.b2) (W:ae) (A:Option Addr) (c:Nat) (l:List dm) (w:World) (bG:ae.Has w a W) (ay:dm.rep.aJ 24 w A c l):
  Calls prog 32 #[.agg ((ae.cells a W).toArray), .slice A l.length c] w (λ e w'=>∃ a' bK b5,e= .returned (.tuple #[.agg (ae.cells a' (gK W l)).toArray, .slice bK (pw W l).length b5, .int .i64 (q7 W l)])∧bo w' w.heap.size a' (gK W l)∧bQ.aF 3 8 w' w.heap.size (τ.ah bK) bK b5 (pw W l)∧(∀ q∈τ.ah bK,q∉bo.bS a')∧Ext w w'):=by
 refine cl (n:=26) func32 Z Z Z ?_;refine aj<|cA Z Z Z Z λ cC bF a8 ef aa=> ?_;have:=a8.size;have bj:=γ (Ext.bN w) a8;have ei:=aa.lt;refine al Z ov Z Z λ ew cu bl il ag=> ?_;have:=bl.size;have bO:=γ bj bl;have hW:=ag.lt;refine va Z<|va Z<|ai<|aA<|aj<| ?_;have aa:=aa.later bl;refine J (ao Z (aa.all dc b3))<|ca FE Z Z ((A8 a W _ (bG.keep bO)).mono ?_);rintro e hX ⟨rfl,gM⟩;refine ⟨_,Z, ?_⟩;have:=gM.size;have cY:=γ bO gM;refine va Z<|ai<|aj<|vm Z<|J (bne Z Z)<|ai<| ?_;refine eV Z (λ mb=> ?_) (λ mb=> ?_)
 ·refine aj<|J (v:= .agg #[.int .i64 0, .int .i64 0, .slice none 0 0, .slice none 0 0, .slice none 0 0, .slice none 0 0, .slice none 0 0, .int .i64 0, .int .i64 0]) (cI Z (by kernel_rfl))<|vm Z<| ?_;have ag:=ag.later gM;refine st (new:= [.int .i64 0, .int .i64 0, .slice none 0 0, .slice none 0 0, .slice none 0 0, .slice none 0 0, .slice none 0 0, .int .i64 0, .int .i64 0]) Z Z ag Z b3 Z Z Z λ GH mP ag=> ?_;have:=mP.size;have sJ:=Ext.mod cY mP bt;refine va Z<|va Z<|ai<|rt<|bT<|bd (.cell Z (ag.all dc b3) (.tmp Z (.tmp Z .nil)))<| ?_;obtain ⟨aZ,bh,cF⟩:=aj2 (l:=l) mb;exact ⟨⟨none,none,none,none,none,0,0,0,0,0⟩,none,0,by rw [aZ,bh,cF];rfl,by rw [bh];exact bo.zero _ _,by rw [cF];exact τ.aF.nil _,λ q I=>by simp [τ.ah] at I,sJ⟩
 ·have br:=Good.q_ mb;have BF:=br.dV;refine bu<|aA<|aj<|vm Z<|J (cG underlying102 Z)<|J (iJ Z Z)<|ai<| ?_;refine dY Z (λ rW=> ?_) (λ rW=> ?_)
  ·refine aj<|J (v:= .agg #[.int .i64 0, .int .i64 0, .slice none 0 0, .slice none 0 0, .slice none 0 0, .slice none 0 0, .slice none 0 0, .int .i64 0, .int .i64 0]) (cI Z (by kernel_rfl))<| ?_;have ag:=ag.later gM;refine st (new:= [.int .i64 0, .int .i64 0, .slice none 0 0, .slice none 0 0, .slice none 0 0, .slice none 0 0, .slice none 0 0, .int .i64 0, .int .i64 0]) Z Z ag Z b3 Z Z Z λ tM wz ag=> ?_;have:=wz.size;have jH:=Ext.mod cY wz bt;refine va Z<|va Z<|ai<|rt<|bT<|bd (.cell Z (ag.all dc b3) (.tmp Z (.tmp Z .nil)))<| ?_;obtain ⟨aZ,bh,cF⟩:=aj3 (l:=l) mb (by omega);exact ⟨⟨none,none,none,none,none,0,0,0,0,0⟩,none,0,by rw [aZ,bh,cF];rfl,by rw [bh];exact bo.zero _ _,by rw [cF];exact τ.aF.nil _,λ q I=>by simp [τ.ah] at I,jH⟩
  ·refine bu<|aj<| ?_;have aa:=aa.later gM;refine J (ao Z (aa.all dc b3))<|ca asI Z Z ((aAi a W _ (bG.keep cY)).mono ?_);rintro e vd ⟨a28,rfl,Ke,dh⟩;refine ⟨_,Z, ?_⟩;have:=dh.size;have jI:=γ cY dh;have SH:=λ q I=>(Ke.lt q I).2;have IH:=λ q I=>(Ke.lt q I).1;have aa:=aa.later dh;refine st Z Z aa Z b3 Z Z Z λ GI lC aa=> ?_;have:=lC.size;have rr:=Ext.mod jI lC bt;refine ai<|aj<|J (ao Z (aa.all dc b3))<|vm Z<| ?_;have Ke:=Ke.mod lC (bB IH);refine ca asJ Z Z ((aAl _ a28 W _ _ l _ Ke (ay.keep rr) (λ aG q I Φ=>by have κ:=ay.azQ (by decide) aG q I;have ab:=IH q (rS Φ);omega) (by omega)).mono ?_);rintro e NT ⟨anF,aqp,rfl,Kn,OW,B0⟩;refine ⟨_,Z, ?_⟩;have:=B0.size;have yN:=Ext.mod rr B0 (λ q I=>by have bg:=IH q (rS I);omega);rw [aDv a28 W l] at aa;have aQw:=λ q I=>(Kn.lt q I).2;have ajI:=λ q I=>(Kn.lt q I).1;have aQv:=λ q I=>(OW.lt q I).2;have aKI:=ZE W l;refine va Z<|ai<|aj<| ?_;have zm:∀ q∈τ.ah a28.T,q=bF→False:=λ q I Φ=>by (have:=IH q (rS I);omega)
   have aa:=aa.mod B0 (λ I=>zm _ I rfl);refine J (ao Z (aa.all dc b3))<|vm Z<| ?_;have ag:=ag.later (γ gM dh);have ag:=ag.mod lC aM;have zn:∀ q∈τ.ah a28.T,q=cu→False:=λ q I Φ=>by (have:=IH q (rS I);omega)
   have ag:=ag.mod B0 (λ I=>zn _ I rfl);refine st Z Z ag Z b3 Z Z Z λ SY kL ag=> ?_;have:=kL.size;have vq:=Ext.mod yN kL bt;refine va Z<|va Z<|ai<|rt<|bd (.cell Z (ag.all dc b3) (.tmp Z (.tmp Z .nil)))<| ?_;have OW:=OW.mod kL (bB IH);have Kn:=Kn.mod kL (bB ajI);obtain ⟨aZ,bh,cF⟩:=RL (l:=l) mb (by omega);exact ⟨a28,anF,aqp,by rw [aZ,bh,cF];rfl,by rw [bh];exact OW.down (by omega),by rw [cF];exact Kn.down (by omega),λ q I hf=>by (have:=ajI q I;(have:=SH q hf;omega)),vq⟩
end
section
structure cd where
 kind:Int
 aR:Int
 spot:ax
 what:Int
 deriving DecidableEq,Inhabited
namespace cd
def cells (a:cd):List Value:= [.int .i64 (a.kind), .int .i64 (a.aR), .int .i64 (a.spot.x), .int .i64 (a.spot.y), .int .i64 (a.what)]
def ok (a:cd):Prop:=(Lit.int .i64 a.kind).wf=true∧(Lit.int .i64 a.aR).wf=true∧(Lit.int .i64 a.spot.x).wf=true∧(Lit.int .i64 a.spot.y).wf=true∧(Lit.int .i64 a.what).wf=true
def raw (j:Nat) (u:Value):Prop:=match j with
 | 0=>∃ n:Int,u= .int .i64 n
 | 1=>∃ n:Int,u= .int .i64 n
 | 2=>∃ n:Int,u= .int .i64 n
 | 3=>∃ n:Int,u= .int .i64 n
 | 4=>∃ n:Int,u= .int .i64 n
 | _=>True
theorem rL (a:cd):∀ (j:Nat) u,a.cells[j]? =some u→raw j u:=by
 intro j u hu
 match j,hu with
 | 0,hu=>exact ⟨_,(aRV hu).symm⟩
 | 1,hu=>exact ⟨_,(aRV hu).symm⟩
 | 2,hu=>exact ⟨_,(aRV hu).symm⟩
 | 3,hu=>exact ⟨_,(aRV hu).symm⟩
 | 4,hu=>exact ⟨_,(aRV hu).symm⟩
 | j+5,hu=>exact trivial
theorem rK (a:cd):∀ u∈a.cells,u.oneCell'=true:=by
 intro u hu;unfold cells at hu;simp only [aSh,aTn,aT5] at hu;rcases hu with rfl | rfl | rfl | rfl | rfl<;>rfl
def rep:τ cd:=τ.flat 5 cells ok raw (λ _=>rfl) rK rL
def zero:Value:= .agg #[.int .i64 0, .int .i64 0, .int .i64 0, .int .i64 0, .int .i64 0]
theorem jq:∀ (j:Nat) u,zero.cells[j]? =some u→rep.raw j u:=by
 intro j u hu;have hu:(#[(.int .i64 0:Value),(.int .i64 0:Value),(.int .i64 0:Value),(.int .i64 0:Value),(.int .i64 0:Value)]:Array Value)[j]? =some u:=hu
 match j,hu with
 | 0,hu=>exact ⟨_,(aRV hu).symm⟩
 | 1,hu=>exact ⟨_,(aRV hu).symm⟩
 | 2,hu=>exact ⟨_,(aRV hu).symm⟩
 | 3,hu=>exact ⟨_,(aRV hu).symm⟩
 | 4,hu=>exact ⟨_,(aRV hu).symm⟩
 | j+5,hu=>cases hu
theorem info:(prog.info? 153).map (λ i=>(i.zero,i.size,i.bytes))=some (some zero,5,40):=by kernel_rfl
def sh:gQ:=(.cons (.int .i64) (.cons (.int .i64) (.cons (.cons (.int .i64) (.cons (.int .i64) .nil)) (.cons (.int .i64) .nil))))
end cd
theorem awe {w:World} {cs:List Value} {a:cd} (h:cd.rep.has w cs a):cs=a.cells:=aTW (show cs=a.cells∧a.ok from h)
end
section
def beside (a b:ax):Bool:=cN b.x (a.x - 1) (a.x+1) && cN b.y (a.y - 1) (a.y+1)
namespace ae
def place (W:ae) (c:ax):Nat:=(c.y * W.field.wide+c.x).toNat
def om (t:aY) (n:Int):aY:= {t with load:=t.load+n}
def nT (W:ae) (d:cd):Option ae :=
 match W.ak.findIdx? (hz d.aR) with
 | none=>none
 | some k =>
  let t:=W.ak.getD k default
  let m:=W.bk.getD (W.place d.spot) 0
  if t.kind == 1 && decide (t.load<5) && beside t.spot d.spot && W.field.fq d.spot && m != 0 then
   some {W with bk:=W.bk.set (W.place d.spot) (m - 1),ak:=W.ak.set k (om t 1)}
  else none
def drop (W:ae) (d:cd):Option ae :=
 match W.ak.findIdx? (hz d.aR) with
 | none=>none
 | some k =>
  let t:=W.ak.getD k default
  let o:=t.owner.toNat
  let s:=W.ba.getD o 0
  let n:=min t.load (1000000 - s)
  if t.load != 0 && beside (W.aV.getD o default) t.spot && decide (0<n) then
   some {W with ba:=W.ba.set o (s+n),ak:=W.ak.set k (om t (-n))}
  else none
def around (c:ax):List ax :=
 [c,⟨c.x - 1,c.y - 1⟩,⟨c.x,c.y - 1⟩,⟨c.x+1,c.y - 1⟩,⟨c.x - 1,c.y⟩,⟨c.x,c.y⟩,⟨c.x+1,c.y⟩,⟨c.x - 1,c.y+1⟩,⟨c.x,c.y+1⟩,⟨c.x+1,c.y+1⟩]
def D5 (W:ae) (c:ax):Bool:=W.field.ground c && !W.ak.any (q1 c)
def free (W:ae) (c:ax):Option ax:=(around c).find? W.D5
def sa (W:ae) (d:cd):Option ae :=
 let s:=W.ba.getD d.aR.toNat 0
 if cN d.aR 0 ((W.aV.length:Int) - 1) && cN d.what 1 2 && decide (iR d.what≤s) && decide (W.ak.length<100) && decide (W.next<1000000) then
  match W.free (W.aV.getD d.aR.toNat default) with
  | none=>none
  | some c=>some {W with ak:=W.ak++ [⟨W.next,d.aR,d.what,c,jB d.what,0⟩],next:=W.next+1,ba:=W.ba.set d.aR.toNat (s - iR d.what)}
 else none
def jc (W:ae) (d:cd):Option ae:=if d.kind=1 then W.nT d else if d.kind=2 then W.drop d else if d.kind=3 then W.sa d else none
def gH (W:ae):List cd→ae×List Bool
 | []=>(W, [])
 | d::l=>match W.jc d with
  | some V=>((V.gH l).1,true::(V.gH l).2)
  | none=>((W.gH l).1,false::(W.gH l).2)
end ae
theorem HX {l:List aY} {id:Int} {k:Nat} (h:l.findIdx? (hz id)=some k):∃ t,l[k]? =some t∧t.id=id∧l.getD k default=t:=by
 obtain ⟨κ,ab,_⟩:=aUo.1 h;exact ⟨l[k],aRX κ,by simpa [hz] using ab,by rw [aRU,aRX κ];rfl⟩
theorem aDe {W V:ae} {k:Nat} {t u:aY} (lA:V.ak=W.ak.set k u) (aC:W.ak[k]? =some t) (hs:u.spot=t.spot) (i:Nat):V.jE i=W.jE i:=by
 unfold ae.jE;rw [lA,List.take_set,aS6];by_cases p':k<i
 ·have κ:((W.ak.take i).map (·.spot))[k]? =some t.spot:=by rw [aSd,aSE,aR8 p',aC];rfl
  obtain ⟨ab,aw⟩:=aRW.1 κ;rw [hs,← aw];exact aTI _
 ·rw [List.set_eq_of_length_le (by rw [aSK,aRZ];omega)]
theorem azg {W V:ae} {k:Nat} {t u:aY} (lA:V.ak=W.ak.set k u) (aC:W.ak[k]? =some t) (hs:u.id=t.id) (i:Nat):V.kd i=W.kd i:=by
 unfold ae.kd;by_cases aq:i=0
 ·rw [aR8 aq,aR8 aq]
 ·rw [aR5 aq,aR5 aq,lA,aRU,aRU];by_cases ar:k=i - 1
  ·subst ar;rw [aSl (aRW.1 aC).1,aC];exact hs
  ·rw [aSp ar]
theorem Uw {W V:ae} {k:Nat} {t u:aY} (lA:V.ak=W.ak.set k u) (aC:W.ak[k]? =some t) {i:Nat} {x:aY} (hx:V.ak[i]? =some x):(i=k∧x=u)∨(i≠k∧W.ak[i]? =some x):=by
 rw [lA] at hx;by_cases ar:k=i
 ·subst ar;rw [aSl (aRW.1 aC).1] at hx;exact .inl ⟨Z,(aRV hx).symm⟩
 ·rw [aSp ar] at hx;exact .inr ⟨aUF ar,hx⟩
theorem Good.turned {W V:ae} (h:Good W) {k:Nat} {t:aY} {n:Int} (aC:W.ak[k]? =some t) (lA:V.ak=W.ak.set k (ae.om t n)) (ay:0≤t.load+n∧t.load+n≤ae.yf t.kind)
  (hf:V.field=W.field) (Φ:V.aV=W.aV) (hn:V.next=W.next) (hw:V.now=W.now)
  (tj:V.ba.length=W.ba.length) (hs:∀ (i:Nat) s,V.ba[i]? =some s→0≤s∧s≤1000000)
  (F3:V.bk.length=W.bk.length) (hm:∀ (i:Nat) m,V.bk[i]? =some m→0≤m∧m≤1000000∧(m≤0∨W.field.aW.getD i 0=3)):Good V:=by
 have κ:=h.ak k t aC;have hlen:V.ak.length=W.ak.length:=by rw [lA,aR4]
 refine ⟨by rw [hf];exact h.field,by rw [Φ];exact h.kg,by rw [hlen];exact h.dV,by rw [tj,Φ];exact h.sl, ?_,hs,by rw [F3,hf];exact h.tD,by rw [hf];exact hm,λ i x hx=> ?_,λ i x hx=> ?_,λ i x hx=> ?_,by rw [hn];exact h.next,by rw [hw];exact h.now⟩
 ·rw [Φ,hf];exact h.aV
 ·rw [hf,Φ];rcases Uw lA aC hx with ⟨rfl,rfl⟩ | ⟨_,hx⟩
  ·exact ⟨κ.kind,κ.owner,κ.ground,κ.cD,ay⟩
  ·exact h.ak i x hx
 ·rw [azg lA aC rfl,hn];rcases Uw lA aC hx with ⟨rfl,rfl⟩ | ⟨_,hx⟩
  ·exact h.ids i t aC
  ·exact h.ids i x hx
 ·rw [aDe lA aC rfl];rcases Uw lA aC hx with ⟨rfl,rfl⟩ | ⟨_,hx⟩
  ·exact h.jE i t aC
  ·exact h.jE i x hx
theorem Yz {W V:ae} {d:cd} (h:W.nT d=some V):∃ (k:Nat) (t:aY),W.ak.findIdx? (hz d.aR)=some k∧W.ak[k]? =some t∧t.id=d.aR∧t.kind=1∧t.load<5∧beside t.spot d.spot=true∧W.field.fq d.spot=true∧W.bk.getD (W.place d.spot) 0≠0∧
  V= {W with bk:=W.bk.set (W.place d.spot) (W.bk.getD (W.place d.spot) 0 - 1),ak:=W.ak.set k (ae.om t 1)}:=by
 unfold ae.nT at h;cases hf:W.ak.findIdx? (hz d.aR) with
 | none=>rw [hf] at h;cases h
 | some k =>
  rw [hf] at h;obtain ⟨t,aC,hid,aO⟩:=HX hf;simp only [aO] at h;split at h
  ·rename_i hc
   simp only [aR2,aSq,aVv,aST] at hc;exact ⟨k,t,Z,aC,hid,hc.1.1.1.1,hc.1.1.1.2,hc.1.1.2,hc.1.2,hc.2,(aRV h).symm⟩
  ·cases h
theorem Vi {W V:ae} {d:cd} (h:W.drop d=some V):∃ (k:Nat) (t:aY) (n:Int),W.ak.findIdx? (hz d.aR)=some k∧W.ak[k]? =some t∧t.id=d.aR∧t.load≠0∧beside (W.aV.getD t.owner.toNat default) t.spot=true∧n=min t.load (1000000 - W.ba.getD t.owner.toNat 0)∧0<n∧
  V= {W with ba:=W.ba.set t.owner.toNat (W.ba.getD t.owner.toNat 0+n),ak:=W.ak.set k (ae.om t (-n))}:=by
 unfold ae.drop at h;cases hf:W.ak.findIdx? (hz d.aR) with
 | none=>rw [hf] at h;cases h
 | some k =>
  rw [hf] at h;obtain ⟨t,aC,hid,aO⟩:=HX hf;simp only [aO] at h;split at h
  ·rename_i hc
   simp only [aR2,aSq,aVv] at hc;exact ⟨k,t,_,Z,aC,hid,hc.1.1,hc.1.2,Z,hc.2,(aRV h).symm⟩
  ·cases h
theorem Xf {W V:ae} {d:cd} (h:W.sa d=some V):∃ c:ax,W.free (W.aV.getD d.aR.toNat default)=some c∧0≤d.aR∧d.aR<(W.aV.length:Int)∧(d.what=1∨d.what=2)∧ae.iR d.what≤W.ba.getD d.aR.toNat 0∧W.ak.length<100∧W.next<1000000∧
  V= {W with ak:=W.ak++ [⟨W.next,d.aR,d.what,c,ae.jB d.what,0⟩],next:=W.next+1,ba:=W.ba.set d.aR.toNat (W.ba.getD d.aR.toNat 0 - ae.iR d.what)}:=by
 unfold ae.sa at h;simp only at h;split at h
 ·rename_i hc
  simp only [aR2,aSq] at hc;have a:=k6 hc.1.1.1.1;have b:=k6 hc.1.1.1.2;split at h
  ·cases h
  ·rename_i c mM
   exact ⟨c,mM,a.1,by omega,by omega,hc.1.1.2,hc.1.2,hc.2,(aRV h).symm⟩
 ·cases h
theorem aBD (k:Int):0≤ae.iR k:=by unfold ae.iR;split<;>(try split)<;>omega
theorem Good.nT {W V:ae} {d:cd} (h:Good W) (hd:W.nT d=some V):Good V:=by
 obtain ⟨k,t,_,aC,_,ar,ay,_,dp,BE,rfl⟩:=Yz hd;have κ:=h.ak k t aC;have Xr:ae.yf t.kind=5:=by rw [ar];rfl
 obtain ⟨i1,i2,_⟩:=aE.idx h.field dp;have bz:W.place d.spot<W.bk.length:=by rw [h.tD];unfold ae.place;omega
 obtain ⟨m,hm⟩:=iM bz;have ab:=h.bk _ m hm;have aO:W.bk.getD (W.place d.spot) 0=m:=by rw [aRU,hm];rfl
 rw [aO] at BE ⊢;refine h.turned aC Z (by have:=κ.load;omega) Z Z Z Z Z h.ba (by simp) λ i x hx=> ?_;simp only at hx;by_cases aq:W.place d.spot=i
 ·subst aq;rw [aSl bz] at hx;obtain rfl:=aRV hx;refine ⟨by omega,by omega, ?_⟩;rcases ab.2.2 with aw | aw
  ·omega
  ·exact .inr aw
 ·rw [aSp aq] at hx;exact h.bk i x hx
theorem Good.drop {W V:ae} {d:cd} (h:Good W) (hd:W.drop d=some V):Good V:=by
 obtain ⟨k,t,n,_,aC,_,ay,_,hn,L3,rfl⟩:=Vi hd;have κ:=h.ak k t aC;have bz:t.owner.toNat<W.ba.length:=by rw [h.sl];have:=κ.owner;omega
 obtain ⟨s,hs⟩:=iM bz;have ab:=h.ba _ s hs;have aO:W.ba.getD t.owner.toNat 0=s:=by rw [aRU,hs];rfl
 rw [aO] at hn ⊢;refine h.turned aC Z (by have:=κ.load;omega) Z Z Z Z (by simp) (λ i x hx=> ?_) Z h.bk;simp only at hx;by_cases aq:t.owner.toNat=i
 ·subst aq;rw [aSl bz] at hx;obtain rfl:=aRV hx;omega
 ·rw [aSp aq] at hx;exact h.ba i x hx
theorem Good.sa {W V:ae} {d:cd} (h:Good W) (hd:W.sa d=some V):Good V:=by
 obtain ⟨c,mM,XO,mN,ar,hp,BF,th,rfl⟩:=Xf hd;have wj:=aU5 mM;unfold ae.D5 at wj;rw [aR2] at wj;have p4:∀ t∈W.ak,t.spot≠c:=λ t aC he=>by
  have:=wj.2;rw [aTf,aUt] at this;exact this t aC (by simp [q1,he])
 have bz:d.aR.toNat<W.ba.length:=by rw [h.sl];omega
 obtain ⟨s,hs⟩:=iM bz;have ab:=h.ba _ s hs;have aO:W.ba.getD d.aR.toNat 0=s:=by rw [aRU,hs];rfl
 rw [aO] at hp ⊢;have Rc:=aBD d.what;have hn:=h.next;have ahD:∀ i,i≤W.ak.length→ae.jE {W with ak:=W.ak++ [⟨W.next,d.aR,d.what,c,ae.jB d.what,0⟩],next:=W.next+1,ba:=W.ba.set d.aR.toNat (s - ae.iR d.what)} i=W.jE i:=λ i aq=>by
  unfold ae.jE;simp only;rw [aVY aq]
 have Q1:∀ i,i≤W.ak.length→ae.kd {W with ak:=W.ak++ [⟨W.next,d.aR,d.what,c,ae.jB d.what,0⟩],next:=W.next+1,ba:=W.ba.set d.aR.toNat (s - ae.iR d.what)} i=W.kd i:=λ i aq=>by
  unfold ae.kd;simp only;by_cases aG:i=0
  ·rw [aR8 aG,aR8 aG]
  ·rw [aR5 aG,aR5 aG,aRU,aRU,aSg (by omega)]
 have fA:∀ (i:Nat) x,(W.ak++ [(⟨W.next,d.aR,d.what,c,ae.jB d.what,0⟩:aY)])[i]? =some x→(i<W.ak.length∧W.ak[i]? =some x)∨(i=W.ak.length∧x=⟨W.next,d.aR,d.what,c,ae.jB d.what,0⟩):=λ i x hx=>by
  by_cases aq:i<W.ak.length
  ·rw [aSg aq] at hx;exact .inl ⟨aq,hx⟩
  ·rw [aSi (by omega)] at hx;have aG:i - W.ak.length=0:=by
    have:=(aRW.1 hx).1;simp at this;omega
   rw [aG] at hx;exact .inr ⟨by omega,by simpa using hx.symm⟩
 have aKC:W.kd W.ak.length<W.next∧0≤W.kd W.ak.length:=by
  by_cases aG:W.ak.length=0
  ·rw [aG];exact ⟨by show (0:Int)<_;omega,aTk _⟩
  ·obtain ⟨t,aC⟩:=iM (l:=W.ak) (i:=W.ak.length - 1) (by omega);have a6:=h.ids _ t aC;have e:W.kd W.ak.length=t.id:=by
    unfold ae.kd;rw [aR5 aG,aRU,aC];rfl
   rw [e];omega
 refine ⟨h.field,h.kg,by simp;omega,by simp;exact h.sl,h.aV,λ i x hx=> ?_,h.tD,h.bk,λ i x hx=> ?_,λ i x hx=> ?_,λ i x hx=> ?_,by simp only;omega,h.now⟩
 ·simp only at hx;by_cases aq:d.aR.toNat=i
  ·subst aq;rw [aSl bz] at hx;obtain rfl:=aRV hx;omega
  ·rw [aSp aq] at hx;exact h.ba i x hx
 ·rcases fA i x hx with ⟨_,hx⟩ | ⟨_,rfl⟩
  ·exact h.ak i x hx
  ·exact ⟨ar,⟨XO,mN⟩,wj.1,by simp only;rcases ar with h | h<;>rw [h]<;>decide,by simp only;rcases ar with h | h<;>rw [h]<;>decide⟩
 ·rcases fA i x hx with ⟨aq,hx⟩ | ⟨rfl,rfl⟩
  ·rw [Q1 i (by omega)];have:=h.ids i x hx;simp only;omega
  ·rw [Q1 _ (aR7 _)];simp only;omega
 ·rcases fA i x hx with ⟨aq,hx⟩ | ⟨rfl,rfl⟩
  ·rw [ahD i (by omega)];exact h.jE i x hx
  ·rw [ahD _ (aR7 _)];simp only;cases hc:(W.jE W.ak.length).contains c with
   | false=>rfl
   | true =>
    rw [aVf] at hc;unfold ae.jE at hc;obtain ⟨t,aC,he⟩:=aSt.1 hc;exact absurd he (p4 t (aT8 aC))
theorem Good.jc {W V:ae} {d:cd} (h:Good W) (hd:W.jc d=some V):Good V:=by
 unfold ae.jc at hd;split at hd
 ·exact h.nT hd
 ·split at hd
  ·exact h.drop hd
  ·split at hd
   ·exact h.sa hd
   ·cases hd
theorem Good.gH {W:ae} (h:Good W):∀ l:List cd,Good (W.gH l).1:=by
 intro l;induction l generalizing W with
 | nil=>exact h
 | cons d l bx =>
  unfold ae.gH;cases hd:W.jc d with
  | none=>exact bx h
  | some V=>exact bx (h.jc hd)
end
end Go.Proofs.YtmeeljmapailnaaGreat
