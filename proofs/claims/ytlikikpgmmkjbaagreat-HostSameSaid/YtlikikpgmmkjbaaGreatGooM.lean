import Derived.Test.YtlikikpgmmkjbaaGreatHitS
set_option linter.unusedVariables false
set_option linter.unusedSimpArgs false
set_option maxRecDepth 100000
set_option maxHeartbeats 4000000
open Go.RowKit
namespace Go.Proofs.YtlikikpgmmkjbaaGreat
open Tryz
abbrev aTi:=@Classical.byContradiction
abbrev aU6:=@List.contains_iff_mem
abbrev aVn:=@bne_iff_ne
section
theorem aos:eN prog bQ 22 3 8:=eN.k_ (z:= .int .i64 0) (k:=1) underlying22 CY rfl rfl (by decide) (λ j u h=>Ix j u h)
theorem τ.aJ.QV {α:Type} {R:τ α} {by_ c:Nat} {w w':World} {A:Option Addr} {l:List α} {F:List Nat} (h:R.aJ by_ w A c l) (hp:R.Plain) (m:Mod F w w') (d:0<l.length→∀ q∈τ.ag A,q∉F):R.aJ by_ w' A c l:=by
 obtain ⟨κ,aa,aw,a6,ess,bL,ch,ef⟩:=h;refine ⟨κ,aa,aw,a6,ess,bL.imp (λ es a _ h=>R.s0 (R.s3 (hp (B:=0) h) (by simp))),ch,λ aG=> ?_⟩;obtain ⟨b,o,rfl,hc⟩:=ef aG;refine ⟨b,o,Z,λ j u hu=> ?_⟩;have gB:=hc j u hu;have Φ:b<w.heap.size:=by
  apply aTi;intro hn;have:w.heap[b]? =none:=aSR (by omega);simp [World.cell?,this] at gB
 have av:=m.block b Φ (d aG b (by simp [τ.ag]));simp only [World.cell?] at gB ⊢;rw [av];exact gB
theorem O5 {w:World} {A:Option Addr} {c:Nat} {T:List ax} (h:ax.rep.aJ 16 w A c T) (k:Nat):(T.getD k default).ok:=by
 rw [aRQ];cases aE:T[k]? with
 | none=>exact ⟨by decide,by decide⟩
 | some t=>exact h.yx (λ fS=>(show _∧_ from fS).2) t (aSv aE)
theorem RS {t:bf} (h:t.ok):t.spot.ok:=by
 obtain ⟨κ,aa,aw,a6,bL,ch,ef⟩:=h;exact ⟨a6,bL⟩
theorem aDA {t:bf} {c:ax} (h:t.ok) (hc:c.ok):(t.bo c).ok:=by
 obtain ⟨κ,aa,aw,a6,bL,ch,ef⟩:=h;exact ⟨κ,aa,aw,hc.1,hc.2,ch,ef⟩
theorem auF {l:List dj} {id:Int} (h:¬ eC l id<0):0≤eC l id∧(eC l id).toNat<l.length:=by
 rcases auE l id with ⟨κ,_⟩ | ⟨k,κ,aa,_⟩<;>omega
theorem als {f:aD} {l:List dj} {T:List bf} {k:Nat} (h:eC l (T.getD k default).id<0):qV f l T k=none:=by unfold qV;rw [aR5 h]
theorem aDf {f:aD} {l:List dj} {T:List bf} {k:Nat} (aG:0≤eC l (T.getD k default).id)
  (h:(gZ f (T.getD k default).spot (l.getD (eC l (T.getD k default).id).toNat default).bo≠0∨((fR f (T.getD k default).spot (l.getD (eC l (T.getD k default).id).toNat default).bo).length:Int)<2)∨0<je T ((fR f (T.getD k default).spot (l.getD (eC l (T.getD k default).id).toNat default).bo).getD 1 default)):qV f l T k=none:=by
 unfold qV;rw [aR0 (by omega)];split
 ·rfl
 ·split
  ·rfl
  ·rw [aR5];rcases h with (h | h) | h
   ·contradiction
   ·omega
   ·exact h
theorem aDg {f:aD} {l:List dj} {T:List bf} {k:Nat} (aG:0≤eC l (T.getD k default).id)
  (h:(gZ f (T.getD k default).spot (l.getD (eC l (T.getD k default).id).toNat default).bo=0∧2≤((fR f (T.getD k default).spot (l.getD (eC l (T.getD k default).id).toNat default).bo).length:Int))∧je T ((fR f (T.getD k default).spot (l.getD (eC l (T.getD k default).id).toNat default).bo).getD 1 default)≤0):
  qV f l T k=some ((fR f (T.getD k default).spot (l.getD (eC l (T.getD k default).id).toNat default).bo).getD 1 default):=by
 obtain ⟨⟨κ,aa⟩,aw⟩:=h;unfold qV;rw [aR0 (by omega),aR0 (by simpa using κ),aR0 (by omega),aR0 (by omega)]
theorem τ.aJ.azB {α:Type} {R:τ α} {by_ c:Nat} {w:World} {A:Option Addr} {l:List α} (h:R.aJ by_ w A c l) (hs:0<R.size) (aG:0<l.length):∀ q∈τ.ag A,q<w.heap.size:=by
 obtain ⟨κ,aa,aw,a6,ess,bL,ch,ef⟩:=h;obtain ⟨b,o,rfl,hc⟩:=ef aG;intro q I;obtain rfl:q=b:=by simpa [τ.ag] using I
 have aB:0<ess.flatten.length:=by rw [ch];exact Nat.mul_pos aG hs
 have gB:=hc 0 _ (aRT aB);apply aTi;intro hn;have:w.heap[q]? =none:=aSR (by omega);simp [World.cell?,this] at gB
theorem ax1 (fe:FuncId) (cs:List Value) (p:dj→Bool) (A:Option Addr) (c:Nat) (l:List dj) (w:World) (aB:dj.rep.aJ 24 w A c l) (nv:Enters prog fe) (dX:∀ x∈l,∀ w',Ext w w'→Calls prog fe (([.agg #[.int .i64 x.id, .int .i64 x.bo.x, .int .i64 x.bo.y]]:List Value)++cs).toArray w' λ e lH=>e= .returned (.bool (p x))∧Ext w' lH):
  Calls prog 135 #[.slice A l.length c, .func (.func fe) #[] cs.toArray] w (λ e w'=>e= .returned (.int .i64 (gm p l))∧Ext w w'):=by
 have oT:=aB.dU;refine cd (n:=19) func135 Z Z Z ?_;refine aj<|va Z<|ai<|az<|aj<|vm Z<|J (cm underlying124 Z)<|vm Z<|ai<|bS<| ?_;refine fk (λ cn cl a1=>∃ k:Nat,cl= [(0, .slice A l.length c),(1, .func (.func fe) #[] cs.toArray),(7, .int .i64 (l.length:Int)),(8, .int .i64 (k:Int))]∧cn=l.length - k∧Ext w a1∧(k≤l.length)∧(∀ i,i<k→p (l.getD i default)=false)) _ _ ⟨0,Z,Z,(Ext.bI w),by omega,λ i ar=>by omega⟩ (.cons Z (.cons Z (.cons Z (.cons (b2 Z (by first | omega | rfl | (simp<;>omega))) .nil)))) ?_;rintro Ms Jw cI ⟨k,rfl,rfl,bk,av,aO⟩;have:=bk.size;refine aj<|J (blt Z Z)<|ai<|az<| ?_;refine en Z (λ lW=> ?_) (λ lW=> ?_)
 ·refine bt<|az<|bS<|aj<|vm Z<|va Z<|ai<|aj<|vm Z<|vm Z<|vm Z<|J (b_ k underlying124 Vc Z Z ((aB.keep bk).bP (bb k)) Z (by omega))<|J (ak Z (τ.aJ.hq af7 ((aB.keep bk).cB (bb k)) (dn (l:=l) (u:=default) (by omega)) atH Vc))<|O' nv Z Z Z ((dX (l.getD k default) (jd (by omega)) _ bk).mono ?_);rintro e IV ⟨rfl,x3⟩;refine ⟨_,Z, ?_⟩;have:=x3.size;have mv:=γ bk x3;refine ai<| ?_;refine dE Z (λ lX=> ?_) (λ lX=> ?_)
  ·refine aj<|vm Z<|va Z<|ai<|rt<|eF<|bO<|mq<|eF<|bO<|a8 (.tmp Z .nil)<| ?_;exact ⟨by have e:=QS (p:=p) (l:=l) (d:=default) (k:=k) (by omega) lX aO;rw [e];rfl,mv⟩
  ·refine fo<|bY<|aV<|rg<|J (bad Z Z (bH (by omega)))<|vm Z<|nl<| ?_;exact c' _ _ ⟨k+1,Z,Z,mv,by omega,sU aO lX⟩ (by omega) (.cons Z (.cons Z (.cons Z (.cons (b2 Z (by first | omega | rfl | (simp<;>omega))) .nil))))
 ·refine dK<|dJ<|ei<|dI<|aV<|aj<|va Z<|ai<|rt<|a8 (.tmp Z .nil)<| ?_;exact ⟨by have e:=QR (p:=p) (l:=l) (d:=default) (λ i ar=>aO i (by omega));rw [e];rfl,bk⟩
theorem azR (x:dj) (b k:Nat) (A:Option Addr) (c:Nat) (T:List bf) (w:World) (aM:aP w b [.pointer (some ⟨e6 A,la A+k * 7,none⟩)] 227 (0,0)) (b6:bf.rep.aJ 56 w A c T) (av:k<T.length):
  Calls prog 136 #[.agg #[.int .i64 x.id, .int .i64 x.bo.x, .int .i64 x.bo.y], .pointer (some ⟨b,0,none⟩)] w (λ e w'=>e= .returned (.bool (x.id == (T.getD k default).id))∧Ext w w'):=by
 have xR:=aM.lt;refine cd (n:=11) func136 Z Z Z ?_;refine aj<|cw Z Z Z Z λ cI bJ a7 dY ab=> ?_;have:=a7.size;have bk:=γ (Ext.bI w) a7;have ed:=ab.lt;refine va Z<|ai<|az<| ?_;refine rd [(1,0),(2,0),(5,0)] [0,1,2,3,4,5,6,7] (by kernel_rfl) (by kernel_rfl) ?_;refine aq Z (λ _=>au atI Z)<|bA Z (λ _ x=>ak Z ((ab.later x).one ba Z))<| ?_;have aM:=aM.later a7;refine bA Z (λ _ x=>ak Z ((aM.later x).one Hb Z))<|aq Z (λ _=>b3 Z)<|aq Z (λ _=>au G' Z)<|bA Z (λ _ x=>ak Z (τ.aJ.j7 jD ((b6.keep (γ bk x)).cB (bb k)) 0 (dn (l:=T) (u:=default) (by omega)) Z ba))<|aq Z (λ _=>beq Z Z)<|aq Z (λ _=>ew Z)<|fn λ er cD=> ?_;have:=cD.size;have bK:=γ bk cD;refine aV<|rt<|a8 (.tmp Z .nil)<| ?_;exact ⟨Z,bK⟩
theorem azQ (b k:Nat) (l:List dj) (A:Option Addr) (c:Nat) (Oz:Option Addr) (tc:Nat) (T:List bf) (w:World) (aB:dj.rep.aJ 24 w A c l) (aM:aP w b [.pointer (some ⟨e6 Oz,la Oz+k * 7,none⟩)] 227 (0,0)) (b6:bf.rep.aJ 56 w Oz tc T) (av:k<T.length):
  Calls prog 135 #[.slice A l.length c, .func (.func 136) #[] #[.pointer (some ⟨b,0,none⟩)]] w (λ e w'=>e= .returned (.int .i64 (eC l (T.getD k default).id))∧Ext w w'):=
 ax1 136 [.pointer (some ⟨b,0,none⟩)] (λ g=>g.id == (T.getD k default).id) A c l w aB atJ (λ x hx w' h=>azR x b k Oz tc T w' (aM.later h) (b6.keep h) av)
theorem aDo (w0:World) (a:ah.bZ) (W:ah) (A:Option Addr) (c:Nat) (l:List dj) (w:World) (cj:bQ.aJ 8 w a.P a.p W.field.aS) (b6:bf.rep.aF 66 56 w w0.heap.size (τ.ag a.T) a.T a.t W.ao) (avW:∀ q∈τ.ag a.P,q∉τ.ag a.T) (aB:dj.rep.aJ 24 w A c l) (HE:0<l.length→∀ q∈τ.ag A,q∉τ.ag a.T) (E7:W.ao.length≤100000):
  Calls prog 98 #[.agg ((ah.cells a W).toArray), .slice A l.length c] w (λ e w'=>∃ bM b8,e= .returned (.slice bM (W.l5 l).2.length b8)∧bQ.aF 3 8 w' w.heap.size (τ.ag bM) bM b8 (W.l5 l).2∧bf.rep.aF 66 56 w' w0.heap.size (τ.ag a.T) a.T a.t (W.l5 l).1.ao∧Mod (τ.ag a.T) w w'):=by
 have oq:=λ q I=>(b6.lt q I).2;have aJZ:∀ q∈τ.ag a.T,w0.heap.size≤q:=λ q I=>(b6.lt q I).1;have agX:=Zj b6.has;refine cd (n:=110) func98 Z Z Z ?_;refine aj<|cw Z Z Z Z λ cI bJ a7 dY ab=> ?_;have:=a7.size;have bk:=(Mod.bI (τ.ag a.T) w).trans (Mod.bz a7);have ed:=ab.lt;refine va Z<|ai<|aj<|Yc Z λ er zi bj ht abo=> ?_;have:=bj.size;have bK:=bk.trans (Mod.bz bj);have hk:=abo.lt;have anv:=kF.of_nil abo;refine va Z<|ai<|az<|aj<|J (au j5 Z)<| ?_;have ab:=ab.later bj;refine J (ak Z (ab.one lT Z))<|J (cm underlying26 Z)<|vm Z<|ai<|bS<| ?_;have b6:=b6.later (γ a7 bj);refine fk (λ cn cl a1=>∃ k:Nat,cl= [(1, .slice A l.length c),(2, .pointer (some ⟨bJ,0,none⟩)),(4, .slice none 0 0),(5, .map (some zi)),(17, .slice a.T W.ao.length a.t),(18, .int .i64 (W.ao.length:Int)),(19, .int .i64 (k:Int))]∧cn=W.ao.length - k∧Mod (τ.ag a.T) w a1∧bf.rep.aF 66 56 a1 w0.heap.size (τ.ag a.T) a.T a.t (W.ao)∧aP a1 bJ (ah.cells a W) 28 (0,0)∧kF a1 zi (je (W.ao.take k))∧(k≤W.ao.length)) _ _ ⟨0,Z,Z,bK,b6,ab,anv,by omega⟩ (.cons Z (.cons Z (.cons Z (.cons Z (.cons Z (.cons Z (.cons (b2 Z (by first | omega | rfl | (simp<;>omega))) .nil))))))) ?_;rintro p3 aHa wh ⟨k,rfl,rfl,jk,b6,ab,gS,av⟩;have:=jk.size;have M5:=λ q I=>(b6.lt q I).2;have o5:=ab.lt;have aku:=gS.lt;refine aj<|J (blt Z Z)<|ai<|az<| ?_;refine en Z (λ ua=> ?_) (λ ua=> ?_)
 ·refine bt<|az<|bS<|aj<|J (b_ k underlying26 kk Z Z (b6.has.bP (bb k)) Z (by omega))<|J (ak Z (τ.aJ.hq jD (b6.has.cB (bb k)) (dn (l:=W.ao) (u:=default) (by omega)) yM kk))<|al Z Kq Z Z λ td w4 cx ai6 eI=> ?_;have:=cx.size;have kf:=jk.trans (Mod.bz cx);have akw:=eI.lt;refine st (new:= [.int .i64 ((W.ao.getD k default).id), .int .i64 ((W.ao.getD k default).owner), .int .i64 ((W.ao.getD k default).kind), .int .i64 ((W.ao.getD k default).spot.x), .int .i64 ((W.ao.getD k default).spot.y), .int .i64 ((W.ao.getD k default).c7), .int .i64 ((W.ao.getD k default).load)]) Z Z eI Z kk Z Z Z λ uL gP eI=> ?_;have:=gP.size;have jl:=kf.md gP (λ q I=> .inr (by have:=aRP.1 I;omega));refine ai<| ?_;have gS:=gS.later cx;have gS:=gS.mod gP aN;refine YP zi (je (W.ao.take k)) [(2,0),(3,0),(5,2),(7,3)] [0,1,2,3,4,5,6,7] (by kernel_rfl) (by kernel_rfl) ?_;refine sK Z Z (λ _=>aH Z) Z<|sK Z Z (λ _=>au tY Z) Z<|Cw Z Z (λ _ x=>ak Z ((eI.mod x.1 aN).par [.int .i64 ((W.ao.getD k default).spot.x), .int .i64 ((W.ao.getD k default).spot.y)] cg bT Z)) Z<|Cw Z Z (λ _ x=>Q1 (p:=(W.ao.getD k default).spot) (x.2 gS) (RS (agX k)) Z Z) Z<|sK Z Z (λ _=>bad Z Z (bH ((by have κ:=Rn (W.ao.take k) ((W.ao.getD k default).spot);(try rw [aRU] at κ);omega)))) Z<|VA Z Z Z λ IN jU Q hK=>meC (p:=(W.ao.getD k default).spot) (gS.later jU) (RS (agX k)) Z Z Z λ Bo aPI kQ Tf=>hK _ _ ⟨(pE.bz jU).trans ⟨kQ,λ _=>Tf.map⟩, ?_⟩;have:=jU.size;have qi:=jl.trans (Mod.bz jU);have:=kQ.size;have kZ:=qi.md kQ (λ q I=> .inr (by have:=aRP.1 I;omega));have anw:=Tf.map;have aBW:=anw.lt;refine sK Z Z (λ _=>ex Z Z) Z<|Vl Z Z Z λ Dy eM Q hK=>Vh (Tf.later eM) Z Z Z λ FV Ft N4=>hK _ _ ?_;have:=eM.size;have qj:=kZ.trans (Mod.bz eM);have:=Ft.size;have tz:=qj.md Ft (λ q I=> .inr (by have:=aRP.1 I;omega));have YD:=N4.lt;refine Vv λ IU h6=> ?_;have:=h6.size;have uW:=tz.trans (Mod.bz h6);refine bY<|aV<|rg<|J (bad Z Z (bH (by omega)))<|vm Z<|nl<| ?_;have b6:=b6.later cx;have b6:=b6.mod gP (λ q I h=>by have Φ:=aRP.1 h;exfalso;(have:=M5 q I;have:=oq q I;omega));have b6:=b6.later jU;have b6:=b6.mod kQ (λ q I h=>by have Φ:=aRP.1 h;exfalso;(have:=M5 q I;have:=oq q I;omega));have b6:=b6.later eM;have b6:=b6.mod Ft (λ q I h=>by have Φ:=aRP.1 h;exfalso;(have:=M5 q I;have:=oq q I;omega));have b6:=b6.later h6;have ab:=ab.later cx;have ab:=ab.mod gP aN;have ab:=ab.later jU;have ab:=ab.mod kQ aN;have ab:=ab.later eM;have ab:=ab.mod Ft aN;have ab:=ab.later h6;have N4:=N4.later h6;exact c' _ _ ⟨k+1,Z,Z,uW,b6,ab,(by rw [aAv (by omega)];exact N4),by omega⟩ (by omega) (.cons Z (.cons Z (.cons Z (.cons Z (.cons Z (.cons Z (.cons (b2 Z (by first | omega | rfl | (simp<;>omega))) .nil)))))))
 ·refine dK<|dJ<|ei<|dI<|aV<|aj<|va Z<|ai<|az<|aj<|J (au j5 Z)<|J (ak Z (ab.one lT Z))<|J (cm underlying26 Z)<|vm Z<|ai<|bS<| ?_;have lU:k=W.ao.length:=by omega
  subst lU;have abn:kF wh zi (je W.ao):=by have h:=gS;rw [aSA] at h;exact h
  refine fk (λ cn cl a1=>∃ k:Nat,∃ T:List bf,∃ M:List Int,∃ ya:Option Addr,∃ GX:Nat,cl= [(1, .slice A l.length c),(2, .pointer (some ⟨bJ,0,none⟩)),(4, .slice none 0 0),(5, .map (some zi)),(8, .slice ya M.length GX),(33, .int .i64 (W.ao.length:Int)),(34, .int .i64 (k:Int))]∧cn=W.ao.length - k∧Mod (τ.ag a.T) w a1∧aP a1 bJ (ah.cells a W) 28 (0,0)∧kF a1 zi (je T)∧bf.rep.aF 66 56 a1 w0.heap.size (τ.ag a.T) a.T a.t (T)∧bQ.aF 3 8 a1 w.heap.size (τ.ag ya) ya GX (M)∧(k≤W.ao.length)∧(jS W.field l W.ao k=(T,M))∧(T.length=W.ao.length)∧(M.length≤k)∧(∀ q∈τ.ag a.T,q=bJ→False)∧(∀ q∈τ.ag a.T,q=zi→False)∧(∀ q∈τ.ag ya,q=bJ→False)∧(∀ q∈τ.ag ya,q=zi→False)∧(∀ q∈τ.ag ya,q∈τ.ag a.T→False)) _ _ ⟨0,W.ao, [],none,0,Z,Z,jk,ab,abn,b6,(τ.aF.nil _),by omega,rfl,rfl,by simp,(λ q I Φ=>by (have:=M5 q I;have:=oq q I;omega)),(λ q I Φ=>by (have:=M5 q I;have:=oq q I;omega)),(λ q I Φ=>by (simp [τ.ag] at I)),(λ q I Φ=>by (simp [τ.ag] at I)),(λ q I Φ=>by (simp [τ.ag] at I))⟩ (.cons Z (.cons Z (.cons Z (.cons Z (.cons Z (.cons Z (.cons (b2 Z (by first | omega | rfl | (simp<;>omega))) .nil))))))) ?_;rintro y_ aHp Ng ⟨k,T,M,ya,GX,rfl,rfl,sq,ab,M2,fb,fZ,av,hS,V8,aKc,nr,rv,tV,n4,n5⟩;have:=sq.size;have aPi:=ab.lt;have aPj:=M2.lt;have Zp:=λ q I=>(fb.lt q I).2;have Sc:=λ q I=>(fZ.lt q I).2;have QB:=Zj fb.has;refine aj<|J (blt Z Z)<|ai<|az<| ?_;refine en Z (λ KW=> ?_) (λ KW=> ?_)
  ·refine bt<|az<|bS<|aj<|vm Z<|va Z<|ai<|aj<|J (au j5 Z)<|J (ak Z (ab.one lT Z))<|vm Z<|J (b_ k underlying26 kk Z Z (fb.has.bP (bb k)) Z (by omega))<|al Z atK Z Z λ Ni acB iC aMQ gR=> ?_;have:=iC.size;have x9:=sq.trans (Mod.bz iC);have aB2:=gR.lt;refine st (new:= [.pointer (some ⟨e6 a.T,la a.T+k * 7,none⟩)]) Z Z gR Z asg Z Z Z λ FZ o1 gR=> ?_;have:=o1.size;have na:=x9.md o1 (λ q I=> .inr (by have:=aRP.1 I;omega));refine ai<|aj<|vm Z<|J (Mv Z Z)<| ?_;have fb:=fb.later iC;have fb:=fb.mod o1 (bD Zp);refine ca ash Z Z ((azQ acB k l A c a.T a.t T _ (aB.QV (τ.dt).1 na HE) gR fb.has (by omega)).mono ?_);rintro e ZG ⟨rfl,hW⟩;refine ⟨_,Z, ?_⟩;have:=hW.size;have u0:=na.trans (Mod.bz hW);refine va Z<|ai<|az<|aj<|vm Z<|J (blt Z Z)<|ai<| ?_;refine en Z (λ ub=> ?_) (λ ub=> ?_)
   ·refine dK<|dJ<|dI<|aV<|rg<|J (bad Z Z (bH (by omega)))<|vm Z<|nl<| ?_;have ab:=ab.later iC;have ab:=ab.mod o1 aN;have ab:=ab.later hW;have M2:=M2.later iC;have M2:=M2.mod o1 aN;have M2:=M2.later hW;have fb:=fb.later hW;have fZ:=fZ.later iC;have fZ:=fZ.mod o1 (bD Sc);have fZ:=fZ.later hW;exact c' _ _ ⟨k+1,T,M,ya,GX,Z,Z,u0,ab,M2,fb,fZ,by omega,FL hS (als ub),V8,by omega,(λ q I Φ=>by (exact nr q I Φ)),(λ q I Φ=>by (exact rv q I Φ)),(λ q I Φ=>by (exact tV q I Φ)),(λ q I Φ=>by (exact n4 q I Φ)),(λ q I Φ=>by (exact n5 q I Φ))⟩ (by omega) (.cons Z (.cons Z (.cons Z (.cons Z (.cons Z (.cons Z (.cons (b2 Z (by first | omega | rfl | (simp<;>omega))) .nil)))))))
   ·obtain ⟨CI,WI⟩:=auF ub;refine bt<|az<| ?_;refine rd [(1,0),(2,0),(5,0),(10,0),(11,2)] [0,1,2,3,4,5,6,7,8,9,10,11,12,13,14,15,16,17,18] (by kernel_rfl) (by kernel_rfl) ?_;refine aq Z (λ _=>au qy Z)<| ?_;have ab:=ab.later iC;have ab:=ab.mod o1 aN;have ab:=ab.later hW;refine bA Z (λ _ x=>ak Z ((ab.later x).par [.int .i64 W.field.wide, .int .i64 W.field.high, .slice a.P W.field.aS.length a.p] k5 k6 Z))<| ?_;have gR:=gR.later hW;refine bA Z (λ _ x=>ak Z ((gR.later x).one Hb Z))<|aq Z (λ _=>b3 Z)<|aq Z (λ _=>au tY Z)<| ?_;have fb:=fb.later hW;refine bA Z (λ _ x=>ak Z (τ.aJ.part jD ((fb.later x).has.cB (bb k)) 3 (ds:= [.int .i64 ((T.getD k default).spot.x), .int .i64 ((T.getD k default).spot.y)]) (dn (l:=T) (u:=default) (by omega)) Z cg bT))<|aq Z (λ _=>aH Z)<|aq Z (λ _=>aH Z)<|aq Z (λ _=>b_ ((eC l (T.getD k default).id).toNat) underlying124 Vc Z Z ((aB.QV (τ.dt).1 u0 HE).bP (bb ((eC l (T.getD k default).id).toNat))) (by omega) (by omega))<|aq Z (λ _=>au asi Z)<|bA Z (λ _ x=>ak Z (τ.aJ.part af7 ((aB.QV (τ.dt).1 (u0.trans (Mod.bz x)) HE).cB (bb ((eC l (T.getD k default).id).toNat))) 1 (ds:= [.int .i64 ((l.getD ((eC l (T.getD k default).id).toNat) default).bo.x), .int .i64 ((l.getD ((eC l (T.getD k default).id).toNat) default).bo.y)]) (dn (l:=l) (u:=default) (by omega)) Z cg bT))<|e8 Z Z Z λ Nk fG Q hK=>ca asj Z Z ((aA9 W.field ((T.getD k default).spot) ((l.getD ((eC l (T.getD k default).id).toNat) default).bo) _ _ _ (cj.QV (τ.dt).1 (u0.trans (Mod.bz fG)) (λ _=>avW))).mono ?_);rintro e I3 ⟨aH1,aRO,rfl,nZ,kY⟩;refine ⟨_,Z,hK _ _ ⟨γ fG kY, ?_⟩⟩;have:=fG.size;have wA:=u0.trans (Mod.bz fG);have:=kY.size;have u1:=wA.trans (Mod.bz kY);have Zq:=λ q I=>(nZ.lt q I).2;have XX:=λ q I=>(nZ.lt q I).1;have QM:=nZ.has;refine aq Z (λ _=>aH Z)<|aq Z (λ _=>ex Z Z)<|aq Z (λ _=>ex Z Z)<|aq Z (λ _=>ex Z Z)<|aq Z (λ _=>ew Z)<|aq Z (λ _=>ew Z)<|aq Z (λ _=>ew Z)<|fn λ F1 ih=> ?_;have:=ih.size;have q6:=u1.trans (Mod.bz ih);refine aV<|az<|aj<|vm Z<|J (bne Z Z)<|vm Z<|aT Z Z Z Z (λ hc=>aH Z) Z<|aT Z Z Z Z (λ hc=>cm underlying25 (gt hc Z)) Z<|aT Z Z Z Z (λ hc=>blt (gt hc Z) Z) Z<|J (eE Z Z Z Z)<|vm Z<|aT Z Z Z Z (λ hc=>aH Z) Z<|aT Z Z Z Z (λ hc=>aH Z) Z<| ?_;have nZ:=nZ.later ih;refine aT Z Z Z Z (λ hc=>b_ 1 underlying25 bT (gt hc Z) Z (nZ.has.bP (bb 1 (by (try simp only [cy] at hc);omega))) Z (by (try simp only [cy] at hc);omega)) Z<|aT Z Z Z Z (λ hc=>ak (gt hc Z) (τ.aJ.hq xp (nZ.has.cB (bb 1 (by (try simp only [cy] at hc);omega))) (dn (l:=fR W.field ((T.getD k default).spot) ((l.getD ((eC l (T.getD k default).id).toNat) default).bo)) (u:=default) (by (try simp only [cy] at hc);omega)) cg bT)) Z<| ?_;have M2:=M2.later iC;have M2:=M2.mod o1 aN;have M2:=M2.later (γ hW (γ fG (γ kY ih)));refine aT Z Z Z Z (λ hc=>Q1 (p:=(fR W.field ((T.getD k default).spot) ((l.getD ((eC l (T.getD k default).id).toNat) default).bo)).getD 1 default) M2 (O5 QM 1) (gt hc Z) (gt hc Z)) Z<|aT Z Z Z Z (λ hc=>h0 (gt hc Z) Z) Z<|J (eE Z Z Z Z)<|ai<| ?_;refine dE Z (λ KY=> ?_) (λ KY=> ?_)
    ·simp only [cy] at KY;refine dK<|dJ<|dI<|aV<|rg<|J (bad Z Z (bH (by omega)))<|vm Z<|nl<| ?_;have ab:=ab.later (γ fG (γ kY ih));have fb:=fb.later (γ fG (γ kY ih));have fZ:=fZ.later iC;have fZ:=fZ.mod o1 (bD Sc);have fZ:=fZ.later (γ hW (γ fG (γ kY ih)));exact c' _ _ ⟨k+1,T,M,ya,GX,Z,Z,q6,ab,M2,fb,fZ,by omega,FL hS (aDf (by omega) KY),V8,by omega,(λ q I Φ=>by (exact nr q I Φ)),(λ q I Φ=>by (exact rv q I Φ)),(λ q I Φ=>by (exact tV q I Φ)),(λ q I Φ=>by (exact n4 q I Φ)),(λ q I Φ=>by (exact n5 q I Φ))⟩ (by omega) (.cons Z (.cons Z (.cons Z (.cons Z (.cons Z (.cons Z (.cons (b2 Z (by first | omega | rfl | (simp<;>omega))) .nil)))))))
    ·simp only [cy] at KY;refine bt<|az<| ?_;refine YP zi (je T) [(1,0),(4,0),(5,0),(7,2),(9,3)] [0,1,2,3,4,5,6,7,8,9] (by kernel_rfl) (by kernel_rfl) ?_;refine sK Z Z (λ _=>aH Z) Z<| ?_;have gR:=gR.later (γ fG (γ kY ih));refine Cw Z Z (λ _ x=>ak Z ((gR.mod x.1 aN).one Hb Z)) Z<|sK Z Z (λ _=>b3 Z) Z<|sK Z Z (λ _=>au tY Z) Z<| ?_;have fb:=fb.later (γ fG (γ kY ih));refine Cw Z Z (λ _ x=>ak Z (τ.aJ.part jD ((fb.mod x.1 (λ q I h=>by have Φ:=aRP.1 h;exfalso;(exact rv q I Φ))).has.cB (bb k)) 3 (ds:= [.int .i64 ((T.getD k default).spot.x), .int .i64 ((T.getD k default).spot.y)]) (dn (l:=T) (u:=default) (by omega)) Z cg bT)) Z<|Cw Z Z (λ _ x=>Q1 (p:=(T.getD k default).spot) (x.2 M2) (RS (QB k)) Z Z) Z<|sK Z Z (λ _=>mi Z Z (bH ((by have κ:=Rn T ((T.getD k default).spot);(try rw [aRU] at κ);omega)))) Z<|VA Z Z Z λ Sw l_ Q hK=>meC (p:=(T.getD k default).spot) (M2.later l_) (RS (QB k)) Z Z Z λ aEC aPG l0 Td=>hK _ _ ⟨(pE.bz l_).trans ⟨l0,λ _=>Td.map⟩, ?_⟩;have:=l_.size;have BG:=q6.trans (Mod.bz l_);have:=l0.size;have SN:=BG.md l0 (λ q I=> .inr (by have:=aRP.1 I;omega));have ant:=Td.map;have aOw:=ant.lt;refine sK Z Z (λ _=>ex Z Z) Z<|Vl Z Z Z λ aEF jT Q hK=>Vh (Td.later jT) Z Z Z λ aEG uq zM=>hK _ _ ?_;have:=jT.size;have ZU:=SN.trans (Mod.bz jT);have:=uq.size;have ZV:=ZU.md uq (λ q I=> .inr (by have:=aRP.1 I;omega));have aOB:=zM.lt;refine Vv λ amf DE=> ?_;have:=DE.size;have DN:=ZV.trans (Mod.bz DE);refine aV<|az<| ?_;refine rd [(0,0),(3,0),(6,3)] [0,1,2,3,4,5,6] (by kernel_rfl) (by kernel_rfl) ?_;have gR:=gR.later l_;have gR:=gR.mod l0 aN;have gR:=gR.later jT;have gR:=gR.mod uq aN;have gR:=gR.later DE;refine bA Z (λ _ x=>ak Z ((gR.later x).one Hb Z))<|aq Z (λ _=>aH Z)<| ?_;have nZ:=nZ.later l_;have nZ:=nZ.mod l0 (bu XX);have nZ:=nZ.later jT;have nZ:=nZ.mod uq (bu XX);have nZ:=nZ.later DE;refine aq Z (λ _=>b_ 1 underlying25 bT Z Z (nZ.has.bP (bb 1)) Z (by omega))<|bA Z (λ _ x=>ak Z (τ.aJ.hq xp ((nZ.later x).has.cB (bb 1)) (dn (l:=fR W.field ((T.getD k default).spot) ((l.getD ((eC l (T.getD k default).id).toNat) default).bo)) (u:=default) (by omega)) cg bT))<|aq Z (λ _=>b3 Z)<|aq Z (λ _=>au tY Z)<| ?_;have fb:=fb.later l_;have fb:=fb.mod l0 (λ q I h=>by have Φ:=aRP.1 h;exfalso;(exact rv q I Φ));have fb:=fb.later jT;have fb:=fb.mod uq (λ q I h=>by have Φ:=aRP.1 h;exfalso;(exact rv q I Φ));have fb:=fb.later DE;refine eo Z Z Z λ Zy F3 Q hK=>aC3 (q:=(T).getD k default) (q':=(⟨((T).getD k default).id,((T).getD k default).owner,((T).getD k default).kind,⟨((fR W.field ((T.getD k default).spot) ((l.getD ((eC l (T.getD k default).id).toNat) default).bo)).getD 1 default).x,((fR W.field ((T.getD k default).spot) ((l.getD ((eC l (T.getD k default).id).toNat) default).bo)).getD 1 default).y⟩,((T).getD k default).c7,((T).getD k default).load⟩:bf)) (i:=k) (j:=3) (old:= [.int .i64 (((T).getD k default).id), .int .i64 (((T).getD k default).owner), .int .i64 (((T).getD k default).kind), .int .i64 (((T).getD k default).spot.x), .int .i64 (((T).getD k default).spot.y), .int .i64 (((T).getD k default).c7), .int .i64 (((T).getD k default).load)]) (part:= [.int .i64 (((fR W.field ((T.getD k default).spot) ((l.getD ((eC l (T.getD k default).id).toNat) default).bo)).getD 1 default).x), .int .i64 (((fR W.field ((T.getD k default).spot) ((l.getD ((eC l (T.getD k default).id).toNat) default).bo)).getD 1 default).y)]) (es:= [.int .i64 (((T).getD k default).id), .int .i64 (((T).getD k default).owner), .int .i64 (((T).getD k default).kind), .int .i64 (((fR W.field ((T.getD k default).spot) ((l.getD ((eC l (T.getD k default).id).toNat) default).bo)).getD 1 default).x), .int .i64 (((fR W.field ((T.getD k default).spot) ((l.getD ((eC l (T.getD k default).id).toNat) default).bo)).getD 1 default).y), .int .i64 (((T).getD k default).c7), .int .i64 (((T).getD k default).load)]) (fb.later F3) τ.dt (dn (l:=T) (u:=default) (by omega)) jD Z Z Z Z Z Z (λ _=>⟨Z,(aDA (QB k) (O5 QM 1))⟩) bT λ aQU H2 n1=>hK _ _ ?_;have:=F3.size;have wv:=DN.trans (Mod.bz F3);have:=H2.size;have aFO:=wv.md H2 (λ q I=> .inl I);refine fn λ aEL F6=> ?_;have:=F6.size;have ZZ:=aFO.trans (Mod.bz F6);refine aV<|az<| ?_;have zM:=zM.later (γ DE F3);have zM:=zM.mod H2 (λ I=>rv _ I rfl);have zM:=zM.later F6;refine YP zi (s9 (je T) ((T.getD k default).spot) (((je T) ((T.getD k default).spot)) - 1)) [(1,0),(4,0),(5,0),(7,2),(9,3)] [0,1,2,3,4,5,6,7,8,9] (by kernel_rfl) (by kernel_rfl) ?_;refine sK Z Z (λ _=>aH Z) Z<| ?_;have gR:=gR.later F3;have aq8:∀ q∈τ.ag a.T,q=acB→False:=λ q I Φ=>by (have:=Zp q I;omega)
     have gR:=gR.mod H2 (λ I=>aq8 _ I rfl);have gR:=gR.later F6;refine Cw Z Z (λ _ x=>ak Z ((gR.mod x.1 aN).one Hb Z)) Z<|sK Z Z (λ _=>b3 Z) Z<|sK Z Z (λ _=>au tY Z) Z<| ?_;have n1:=n1.later F6;refine Cw Z Z (λ _ x=>ak Z (τ.aJ.part jD ((n1.mod x.1 (λ q I h=>by have Φ:=aRP.1 h;exfalso;(exact rv q I Φ))).has.cB (bb k (by rw [aR1];omega))) 3 (ds:= [.int .i64 (((T.getD k default).bo ((fR W.field (T.getD k default).spot (l.getD (eC l (T.getD k default).id).toNat default).bo).getD 1 default)).spot.x), .int .i64 (((T.getD k default).bo ((fR W.field (T.getD k default).spot (l.getD (eC l (T.getD k default).id).toNat default).bo).getD 1 default)).spot.y)]) (aSg (by omega)) Z cg bT)) Z<|Cw Z Z (λ _ x=>Q1 (p:=((T.getD k default).bo ((fR W.field (T.getD k default).spot (l.getD (eC l (T.getD k default).id).toNat default).bo).getD 1 default)).spot) (x.2 zM) (O5 QM 1) Z Z) Z<|sK Z Z (λ _=>bad Z Z (bH ((by have aG:=Rn T ((T.getD k default).spot);have κ:=aD9 (x:=((T.getD k default).spot)) (v:=(((je T) ((T.getD k default).spot)) - 1)) (Rn T) (by omega) (by omega) (((T.getD k default).bo ((fR W.field (T.getD k default).spot (l.getD (eC l (T.getD k default).id).toNat default).bo).getD 1 default)).spot);omega)))) Z<|VA Z Z Z λ Zz lJ Q hK=>meC (p:=((T.getD k default).bo ((fR W.field (T.getD k default).spot (l.getD (eC l (T.getD k default).id).toNat default).bo).getD 1 default)).spot) (zM.later lJ) (O5 QM 1) Z Z Z λ amg aPH Fo Te=>hK _ _ ⟨(pE.bz lJ).trans ⟨Fo,λ _=>Te.map⟩, ?_⟩;have:=lJ.size;have Gd:=ZZ.trans (Mod.bz lJ);have:=Fo.size;have Nx:=Gd.md Fo (λ q I=> .inr (by have:=aRP.1 I;omega));have anu:=Te.map;have aOK:=anu.lt;refine sK Z Z (λ _=>ex Z Z) Z<|Vl Z Z Z λ aEO F7 Q hK=>Vh (Te.later F7) Z Z Z λ aEP y5 Gu=>hK _ _ ?_;have:=F7.size;have Z0:=Nx.trans (Mod.bz F7);have:=y5.size;have Z1:=Z0.md y5 (λ q I=> .inr (by have:=aRP.1 I;omega));have aOP:=Gu.lt;refine Vv λ aEQ ot=> ?_;have:=ot.size;have Z2:=Z1.trans (Mod.bz ot);refine aV<|rg<|vm Z<| ?_;have gR:=gR.later lJ;have gR:=gR.mod Fo aN;have gR:=gR.later F7;have gR:=gR.mod y5 aN;have gR:=gR.later ot;refine J (ak Z (gR.one Hb Z))<|J (b3 Z)<|J (au G' Z)<| ?_;have n1:=n1.later lJ;have n1:=n1.mod Fo (λ q I h=>by have Φ:=aRP.1 h;exfalso;(exact rv q I Φ));have n1:=n1.later F7;have n1:=n1.mod y5 (λ q I h=>by have Φ:=aRP.1 h;exfalso;(exact rv q I Φ));have n1:=n1.later ot;refine J (ak Z (τ.aJ.j7 jD (n1.has.cB (bb k (by rw [aR1];omega))) 0 (aSg (by omega)) Z ba))<|cV (e:= 3) (cs:= [.int .i64 (((T.getD k default).bo ((fR W.field (T.getD k default).spot (l.getD (eC l (T.getD k default).id).toNat default).bo).getD 1 default)).id)]) Z (λ _=>by kernel_rfl) Z λ amk aps lL ayL Jo=> ?_;have:=lL.size;have Nz:=Z2.trans (Mod.bz lL);have aBL:=Jo.lt;have fZ:=fZ.later iC;have fZ:=fZ.mod o1 (bD Sc);have fZ:=fZ.later (γ hW (γ fG (γ kY (γ ih l_))));have fZ:=fZ.mod l0 (λ q I h=>by have Φ:=aRP.1 h;exfalso;(exact n4 q I Φ));have fZ:=fZ.later jT;have fZ:=fZ.mod uq (λ q I h=>by have Φ:=aRP.1 h;exfalso;(exact n4 q I Φ));have fZ:=fZ.later (γ DE F3);have fZ:=fZ.mod H2 (λ q I h=>by exfalso;(exact n5 q I h));have fZ:=fZ.later (γ F6 lJ);have fZ:=fZ.mod Fo (λ q I h=>by have Φ:=aRP.1 h;exfalso;(exact n4 q I Φ));have fZ:=fZ.later F7;have fZ:=fZ.mod y5 (λ q I h=>by have Φ:=aRP.1 h;exfalso;(exact n4 q I Φ));have fZ:=fZ.later (γ ot lL);refine ap aos τ.dt fZ (aP.gC (R:=bQ) (by_:=8) (q:=((T.getD k default).bo ((fR W.field (T.getD k default).spot (l.getD (eC l (T.getD k default).id).toNat default).bo).getD 1 default)).id) Jo ⟨Z,bG.2 (bG.1 (QB k).1)⟩ (by decide)) Z Z (by simp only [aRW,aR2];omega) (by simp only [aRW,aR2];omega) (by omega) Z λ aET am9 aqg H7 abS VE aNP=> ?_;have:=H7.size;have Z5:=Nz.md H7 (λ q I=> .inr ((λ q I=>aSn (by omega) (fZ.lt q I).1) q I));have aDV:=λ q I=>(abS.lt q I).2;have:=H7.size;refine va Z<|nl<|bY<|aV<|rg<|J (bad Z Z (bH (by omega)))<|vm Z<|nl<| ?_;have V6:=MX hS (aDg (by omega) KY);have ab:=ab.later (γ fG (γ kY (γ ih l_)));have ab:=ab.mod l0 aN;have ab:=ab.later jT;have ab:=ab.mod uq aN;have ab:=ab.later (γ DE F3);have ab:=ab.mod H2 (λ I=>nr _ I rfl);have ab:=ab.later (γ F6 lJ);have ab:=ab.mod Fo aN;have ab:=ab.later F7;have ab:=ab.mod y5 aN;have ab:=ab.later (γ ot lL);have ab:=ab.mod H7 (λ I=>tV _ I rfl);have Gu:=Gu.later (γ ot lL);have Gu:=Gu.mod H7 (λ I=>n4 _ I rfl);have n1:=n1.later lL;have n1:=n1.mod H7 (λ q I h=>by exfalso;(exact n5 q h I));exact c' _ _ ⟨k+1,(T).set k ((⟨((T).getD k default).id,((T).getD k default).owner,((T).getD k default).kind,⟨((fR W.field ((T.getD k default).spot) ((l.getD ((eC l (T.getD k default).id).toNat) default).bo)).getD 1 default).x,((fR W.field ((T.getD k default).spot) ((l.getD ((eC l (T.getD k default).id).toNat) default).bo)).getD 1 default).y⟩,((T).getD k default).c7,((T).getD k default).load⟩:bf)),M++ [((T.getD k default).bo ((fR W.field (T.getD k default).spot (l.getD (eC l (T.getD k default).id).toNat default).bo).getD 1 default)).id],am9,aqg,Z,Z,Z5,ab,(by rw [aAt (by omega)];exact Gu),n1,abS,by omega,V6,by rw [aR1];exact V8,by rw [aRX,aSx];omega,(λ q I Φ=>by (exact nr q I Φ)),(λ q I Φ=>by (exact rv q I Φ)),(λ q I Φ=>by (exact aR4 (VE q I) (λ ahY=>by (exact tV q ahY Φ)) (λ ahY=>by omega))),(λ q I Φ=>by (exact aR4 (VE q I) (λ ahZ=>by (exact n4 q ahZ Φ)) (λ ahZ=>by omega))),(λ q I Φ=>by (exact aR4 (VE q I) (λ ah0=>by (exact n5 q ah0 Φ)) (λ ah0=>by (have:=Zp q Φ;omega))))⟩ (by omega) (.cons Z (.cons Z (.cons Z (.cons Z (.cons Z (.cons Z (.cons (b2 Z (by first | omega | rfl | (simp<;>omega))) .nil)))))))
  ·refine dK<|dJ<|ei<|dI<|aV<|aj<|vm Z<|va Z<|ai<|rt<|a8 (.tmp Z .nil)<| ?_;have lU:k=W.ao.length:=by omega
   subst lU;have bc:(W.l5 l).2=M:=by show (jS _ _ _ _).2=M;rw [hS]
   have bl:(W.l5 l).1.ao=T:=by show (jS _ _ _ _).1=T;rw [hS]
   exact ⟨ya,GX,by rw [bc];rfl,by rw [bc];exact fZ,by rw [bl];exact fb,sq⟩
end
section
def aHy (W:ah) (p:bf→Bool) (w:World) (e:Ending) (w':World):Prop:=e= .returned (.tuple #[.int .i64 (aFa W p), .bool (amz W p), .int .i64 W.bp])∧Below w.heap.size w w'
end
section
theorem bq.az3 {w aW:World} {aC:Nat} {a:ah.bZ} {W:ah} {l:List bf} (h:bq w aC a W) (m:Mod (τ.ag a.T) w aW) (b6:bf.rep.aF 66 56 aW aC (τ.ag a.T) a.T a.t l):bq aW aC a {W with ao:=l}:=by
 have hn:=(aSI.1 h.apart).2.2;have d:∀ q∈τ.ag a.P++τ.ag a.B++τ.ag a.S++τ.ag a.M,q∉τ.ag a.T:=λ q I aE=>hn q I q aE rfl;exact ⟨h.P.mod m (λ q I=>d q (by simp [I])),h.B.mod m (λ q I=>d q (by simp [I])),h.S.mod m (λ q I=>d q (by simp [I])),h.M.mod m (λ q I=>d q (by simp [I])),b6,h.apart,h.nums⟩
theorem auc {w:World} {aC:Nat} {a:ah.bZ} {W:ah} (h:bq w aC a W):∀ q∈τ.ag a.P,q∉τ.ag a.T:=λ q I aE=>(aSI.1 h.apart).2.2 q (by simp [I]) q aE rfl
theorem az7 (w0:World) (a:ah.bZ) (W:ah) (A:Option Addr) (c:Nat) (l:List dj) (w:World) (P6:bq w w0.heap.size a W) (aB:dj.rep.aJ 24 w A c l) (HE:0<l.length→∀ q∈τ.ag A,q∉τ.ag a.T) (E7:W.ao.length≤100000):
  Calls prog 98 #[.agg (ah.cells a W).toArray, .slice A l.length c] w (λ e w'=>∃ bM b8,e= .returned (.slice bM (W.l5 l).2.length b8)∧bQ.aF 3 8 w' w.heap.size (τ.ag bM) bM b8 (W.l5 l).2∧bq w' w0.heap.size a (W.l5 l).1∧Mod (τ.ag a.T) w w'):=by
 refine (aDo w0 a W A c l w P6.P.has P6.T (auc P6) aB HE E7).mono ?_;rintro e w' ⟨bM,b8,rfl,κ,aa,aw⟩;exact ⟨bM,b8,Z,κ,P6.az3 aw aa,aw⟩
theorem Ze (W:ah) (l:List dj):(W.l5 l).1.ao.length=W.ao.length:=(RV _).1
theorem aDp (a:ah.bZ) (W:ah) (l:List dj):ah.cells a W=ah.cells a (W.l5 l).1:=by
 unfold ah.cells;rw [Ze];rfl
def r3 (W:ah) (l:List dj):Int:=if W.bp≠0 then W.bp else if 200<l.length then 2 else 0
noncomputable def hi (W:ah) (l:List dj):ah:=if r3 W l≠0 then ah.zero else (W.l5 l).1
noncomputable def o2 (W:ah) (l:List dj):List Int:=if r3 W l≠0 then [] else (W.l5 l).2
theorem ajw {W:ah} {l:List dj} (h:¬ W.bp=0):r3 W l=W.bp∧hi W l=ah.zero∧o2 W l= []:=by
 have e:r3 W l=W.bp:=by unfold r3;rw [aR5 h]
 unfold hi o2;rw [e,aR5 h,aR5 h];exact ⟨Z,Z,Z⟩
theorem ajx {W:ah} {l:List dj} (h:W.bp=0) (aB:(200:Int)<(l.length:Int)):r3 W l=2∧hi W l=ah.zero∧o2 W l= []:=by
 have e:r3 W l=2:=by unfold r3;rw [aR0 (by omega),aR5 (by omega)]
 unfold hi o2;rw [e];exact ⟨Z,Z,Z⟩
theorem Rb {W:ah} {l:List dj} (h:W.bp=0) (aB:(l.length:Int)≤200):r3 W l=0∧hi W l=(W.l5 l).1∧o2 W l=(W.l5 l).2:=by
 have e:r3 W l=0:=by unfold r3;rw [aR0 (by omega),aR0 (by omega)]
 unfold hi o2;rw [e];exact ⟨Z,Z,Z⟩
noncomputable def akI (g:dj):Nat→ah→Nat
 | 0,_=>0
 | n+1,W=>if (W.l5 [g]).2.length=0 then 0 else akI g n (W.l5 [g]).1+1
noncomputable def akJ (g:dj):Nat→ah→ah
 | 0,W=>W
 | n+1,W=>if (W.l5 [g]).2.length=0 then (W.l5 [g]).1 else akJ g n (W.l5 [g]).1
def akH (W:ah) (id n:Int):Int:=if W.bp≠0 then W.bp else if n<0∨200<n then 1 else if amz W (hg id)=false then 7 else 0
noncomputable def aPy (W:ah) (id:Int) (bo:ax) (n:Int):ah:=if akH W id n≠0 then ah.zero else akJ ⟨id,⟨bo.x,bo.y⟩⟩ n.toNat W
noncomputable def aPx (W:ah) (id:Int) (bo:ax) (n:Int):Nat:=if akH W id n≠0 then 0 else akI ⟨id,⟨bo.x,bo.y⟩⟩ n.toNat W
theorem az4 (a:ah.bZ) (W:ah) (w:World) (bN:ah.Has w a W):
  Calls prog 97 #[.agg ((ah.cells a W).toArray)] w (λ e w'=>∃ a':ah.bZ,e= .returned (.agg (ah.cells a' W).toArray)∧bq w' w.heap.size a' W∧Ext w w'):=by
 refine cd (n:=26) func97 Z Z Z ?_;refine aj<|cw Z Z Z Z λ cI bJ a7 dY ab=> ?_;have:=a7.size;have bk:=γ (Ext.bI w) a7;have ed:=ab.lt;refine al Z kK Z Z λ er cu bj ht ae=> ?_;have:=bj.size;have bK:=γ bk bj;have hk:=ae.lt;refine ai<|aj<|J (au qy Z)<|J (au xf Z)<| ?_;have ab:=ab.later bj;refine J (ak Z (ab.one fQ Z))<|ca At Z Z ((vk _ _ W.field.aS _ (bN.P.keep bK)).mono ?_);rintro e uK ⟨my,mI,rfl,e4,awS,hl⟩;refine ⟨_,Z, ?_⟩;have:=hl.size;have h8:=γ bK hl;have mW:=λ q I=>(e4.lt q I).2;have mP:=λ q I=>(e4.lt q I).1;refine J (au qy Z)<|J (au xf Z)<| ?_;have ab:=ab.later hl;refine st (new:= [.int .i64 W.field.wide, .int .i64 W.field.high, .slice my ((W.field.aS).length) mI, .slice a.B W.aU.length a.b, .slice a.S W.bh.length a.s, .slice a.M W.br.length a.m, .slice a.T W.ao.length a.t, .int .i64 W.next, .int .i64 W.now]) Z Z ab Z xg Z Z Z λ zz p4 ab=> ?_;have:=p4.size;have kC:=Ext.mod h8 p4 bs;refine ai<|az<| ?_;refine rd [(1,0),(2,2),(4,0),(5,2),(7,3),(9,3)] [0,1,3,4,2,6,5,7,8,9] (by kernel_rfl) (by kernel_rfl) ?_;refine aq Z (λ _=>au rC Z)<|bA Z (λ _ x=>ak Z ((ab.later x).one vy Z))<|aq Z (λ _=>au tZ Z)<|bA Z (λ _ x=>ak Z ((ab.later x).one fQ Z))<|e8 Z Z Z λ sb cx Q hK=>ca U' Z Z ((O8 _ _ W.aU _ (bN.B.keep (γ kC cx))).mono ?_);rintro e Bn ⟨tB,tS,rfl,fH,awT,fP⟩;refine ⟨_,Z,hK _ _ ⟨γ cx fP, ?_⟩⟩;have:=cx.size;have iR:=γ kC cx;have:=fP.size;have pb:=γ iR fP;have zw:=λ q I=>(fH.lt q I).2;have um:=λ q I=>(fH.lt q I).1;refine aq Z (λ _=>au rC Z)<|e8 Z Z Z λ FU kW Q hK=>ca At Z Z ((vk _ _ W.bh _ (bN.S.keep (γ pb kW))).mono ?_);rintro e uM ⟨wC,w7,rfl,fI,awU,ej⟩;refine ⟨_,Z,hK _ _ ⟨γ kW ej, ?_⟩⟩;have:=kW.size;have q4:=γ pb kW;have:=ej.size;have ll:=γ q4 ej;have Bf:=λ q I=>(fI.lt q I).2;have qN:=λ q I=>(fI.lt q I).1;have ab:=ab.later (γ cx (γ fP (γ kW ej)));refine eo Z Z Z λ wk ee Q hK=>st (new:= [.int .i64 W.field.wide, .int .i64 W.field.high, .slice my ((W.field.aS).length) mI, .slice tB ((W.aU).length) tS, .slice a.S W.bh.length a.s, .slice a.M W.br.length a.m, .slice a.T W.ao.length a.t, .int .i64 W.next, .int .i64 W.now]) Z Z (ab.later ee) Z Va Z Z Z λ Dy hz ab=>hK _ _ ?_;have:=ee.size;have jm:=γ ll ee;have:=hz.size;have qj:=Ext.mod jm hz bs;refine aq Z (λ _=>au tZ Z)<|eo Z Z Z λ Bp eU Q hK=>st (new:= [.int .i64 W.field.wide, .int .i64 W.field.high, .slice my ((W.field.aS).length) mI, .slice tB ((W.aU).length) tS, .slice wC ((W.bh).length) w7, .slice a.M W.br.length a.m, .slice a.T W.ao.length a.t, .int .i64 W.next, .int .i64 W.now]) Z Z (ab.later eU) Z xg Z Z Z λ FW gQ ab=>hK _ _ ?_;have:=eU.size;have lN:=γ qj eU;have:=gQ.size;have ox:=Ext.mod lN gQ bs;refine fn λ qd ek=> ?_;have:=ek.size;have hI:=γ ox ek;refine aV<|az<| ?_;refine rd [(1,0),(2,2),(4,0),(5,2),(7,3),(9,3)] [0,1,3,4,2,6,5,7,8,9] (by kernel_rfl) (by kernel_rfl) ?_;refine aq Z (λ _=>au yN Z)<| ?_;have ab:=ab.later ek;refine bA Z (λ _ x=>ak Z ((ab.later x).one fQ Z))<|aq Z (λ _=>au j5 Z)<|bA Z (λ _ x=>ak Z ((ab.later x).one lT Z))<|e8 Z Z Z λ IW gI Q hK=>ca At Z Z ((vk _ _ W.br _ (bN.M.keep (γ hI gI))).mono ?_);rintro e IZ ⟨zH,qw,rfl,iU,awV,iO⟩;refine ⟨_,Z,hK _ _ ⟨γ gI iO, ?_⟩⟩;have:=gI.size;have uX:=γ hI gI;have:=iO.size;have ql:=γ uX iO;have Sa:=λ q I=>(iU.lt q I).2;have sT:=λ q I=>(iU.lt q I).1;refine aq Z (λ _=>au yN Z)<|e8 Z Z Z λ Sr hH Q hK=>ca Vb Z Z ((O9 _ _ W.ao _ (bN.T.keep (γ ql hH))).mono ?_);rintro e I0 ⟨DS,Cf,rfl,iV,awW,gJ⟩;refine ⟨_,Z,hK _ _ ⟨γ hH gJ, ?_⟩⟩;have:=hH.size;have wz:=γ ql hH;have:=gJ.size;have ss:=γ wz gJ;have r9:=λ q I=>(iV.lt q I).2;have rX:=λ q I=>(iV.lt q I).1;have ab:=ab.later (γ gI (γ iO (γ hH gJ)));refine eo Z Z Z λ amq ov Q hK=>st (new:= [.int .i64 W.field.wide, .int .i64 W.field.high, .slice my ((W.field.aS).length) mI, .slice tB ((W.aU).length) tS, .slice wC ((W.bh).length) w7, .slice zH ((W.br).length) qw, .slice a.T W.ao.length a.t, .int .i64 W.next, .int .i64 W.now]) Z Z (ab.later ov) Z xg Z Z Z λ Dz gV ab=>hK _ _ ?_;have:=ov.size;have NI:=γ ss ov;have:=gV.size;have qm:=Ext.mod NI gV bs;refine aq Z (λ _=>au j5 Z)<|eo Z Z Z λ Nk fG Q hK=>st (new:= [.int .i64 W.field.wide, .int .i64 W.field.high, .slice my ((W.field.aS).length) mI, .slice tB ((W.aU).length) tS, .slice wC ((W.bh).length) w7, .slice zH ((W.br).length) qw, .slice DS ((W.ao).length) Cf, .int .i64 W.next, .int .i64 W.now]) Z Z (ab.later fG) Z Kr Z Z Z λ F0 p7 ab=>hK _ _ ?_;have:=fG.size;have wA:=γ qm fG;have:=p7.size;have kg:=Ext.mod wA p7 bs;refine fn λ Su gq=> ?_;have:=gq.size;have BE:=γ kg gq;refine aV<|aj<| ?_;have ab:=ab.later gq;refine J (ak Z (ab.all cL bU))<| ?_;have ae:=ae.later hl;have ae:=ae.mod p4 aN;have ae:=ae.later (γ cx (γ fP (γ kW (γ ej ee))));have ae:=ae.mod hz aN;have ae:=ae.later eU;have ae:=ae.mod gQ aN;have ae:=ae.later (γ ek (γ gI (γ iO (γ hH (γ gJ ov)))));have ae:=ae.mod gV aN;have ae:=ae.later fG;have ae:=ae.mod p7 aN;have ae:=ae.later gq;refine st (new:= [.int .i64 W.field.wide, .int .i64 W.field.high, .slice my ((W.field.aS).length) mI, .slice tB ((W.aU).length) tS, .slice wC ((W.bh).length) w7, .slice zH ((W.br).length) qw, .slice DS ((W.ao).length) Cf, .int .i64 W.next, .int .i64 W.now]) Z Z ae Z bU Z Z Z λ Sv mS ae=> ?_;have:=mS.size;have BF:=Ext.mod BE mS bs;refine ai<|rt<|a8 (.cell Z (ae.all cL bU) .nil)<| ?_;have e4:=e4.mod p4 (bu mP);have e4:=e4.later (γ cx (γ fP (γ kW (γ ej ee))));have e4:=e4.mod hz (bu mP);have e4:=e4.later eU;have e4:=e4.mod gQ (bu mP);have e4:=e4.later (γ ek (γ gI (γ iO (γ hH (γ gJ ov)))));have e4:=e4.mod gV (bu mP);have e4:=e4.later fG;have e4:=e4.mod p7 (bu mP);have e4:=e4.later gq;have e4:=e4.mod mS (bu mP);have fH:=fH.later (γ kW (γ ej ee));have fH:=fH.mod hz (bu um);have fH:=fH.later eU;have fH:=fH.mod gQ (bu um);have fH:=fH.later (γ ek (γ gI (γ iO (γ hH (γ gJ ov)))));have fH:=fH.mod gV (bu um);have fH:=fH.later fG;have fH:=fH.mod p7 (bu um);have fH:=fH.later gq;have fH:=fH.mod mS (bu um);have fI:=fI.later ee;have fI:=fI.mod hz (bu qN);have fI:=fI.later eU;have fI:=fI.mod gQ (bu qN);have fI:=fI.later (γ ek (γ gI (γ iO (γ hH (γ gJ ov)))));have fI:=fI.mod gV (bu qN);have fI:=fI.later fG;have fI:=fI.mod p7 (bu qN);have fI:=fI.later gq;have fI:=fI.mod mS (bu qN);have iU:=iU.later (γ hH (γ gJ ov));have iU:=iU.mod gV (bu sT);have iU:=iU.later fG;have iU:=iU.mod p7 (bu sT);have iU:=iU.later gq;have iU:=iU.mod mS (bu sT);have iV:=iV.later ov;have iV:=iV.mod gV (bu rX);have iV:=iV.later fG;have iV:=iV.mod p7 (bu rX);have iV:=iV.later gq;have iV:=iV.mod mS (bu rX);have hR:=bq.Yj (aC:=w.heap.size) (e4.down (by omega)) (fH.down (by omega)) (fI.down (by omega)) (iU.down (by omega)) (iV.down (by omega)) (λ q κ aa=>by exfalso;(have:=um q κ;(have:=mW q aa;omega))) (λ q κ aa=>by exfalso;(have:=qN q κ;(have:=mW q aa;omega))) (λ q κ aa=>by exfalso;(have:=qN q κ;(have:=zw q aa;omega))) (λ q κ aa=>by exfalso;(have:=sT q κ;(have:=mW q aa;omega))) (λ q κ aa=>by exfalso;(have:=sT q κ;(have:=zw q aa;omega))) (λ q κ aa=>by exfalso;(have:=sT q κ;(have:=Bf q aa;omega))) (λ q κ aa=>by exfalso;(have:=rX q κ;(have:=mW q aa;omega))) (λ q κ aa=>by exfalso;(have:=rX q κ;(have:=zw q aa;omega))) (λ q κ aa=>by exfalso;(have:=rX q κ;(have:=Bf q aa;omega))) (λ q κ aa=>by exfalso;(have:=rX q κ;(have:=Sa q aa;omega))) bN.nums;exact ⟨⟨my,tB,wC,zH,DS,mI,tS,w7,qw,Cf⟩,Z,hR,BF⟩
theorem az6 (a:ah.bZ) (W:ah) (A:Option Addr) (c:Nat) (l:List dj) (w:World) (bN:ah.Has w a W) (aB:dj.rep.aJ 24 w A c l):
  Calls prog 62 #[.agg ((ah.cells a W).toArray), .slice A l.length c] w (λ e w'=>∃ a' bM b8,e= .returned (.tuple #[.agg (ah.cells a' (hi W l)).toArray, .slice bM (o2 W l).length b8, .int .i64 (r3 W l)])∧bq w' w.heap.size a' (hi W l)∧bQ.aF 3 8 w' w.heap.size (τ.ag bM) bM b8 (o2 W l)∧(∀ q∈τ.ag bM,q∉bq.b1 a')∧Ext w w'):=by
 refine cd (n:=26) func62 Z Z Z ?_;refine aj<|cw Z Z Z Z λ cI bJ a7 dY ab=> ?_;have:=a7.size;have bk:=γ (Ext.bI w) a7;have ed:=ab.lt;refine al Z kK Z Z λ er cu bj ht ae=> ?_;have:=bj.size;have bK:=γ bk bj;have hk:=ae.lt;refine va Z<|va Z<|ai<|az<|aj<| ?_;have ab:=ab.later bj;refine J (ak Z (ab.all cL bU))<|ca G_ Z Z ((Ch a W _ (bN.keep bK)).mono ?_);rintro e hD ⟨rfl,fw⟩;refine ⟨_,Z, ?_⟩;have:=fw.size;have cZ:=γ bK fw;refine va Z<|ai<|aj<|vm Z<|J (bne Z Z)<|ai<| ?_;refine ey Z (λ lV=> ?_) (λ lV=> ?_)
 ·refine aj<|J (v:= .agg #[.int .i64 0, .int .i64 0, .slice none 0 0, .slice none 0 0, .slice none 0 0, .slice none 0 0, .slice none 0 0, .int .i64 0, .int .i64 0]) (cE Z (by kernel_rfl))<|vm Z<| ?_;have ae:=ae.later fw;refine st (new:= [.int .i64 0, .int .i64 0, .slice none 0 0, .slice none 0 0, .slice none 0 0, .slice none 0 0, .slice none 0 0, .int .i64 0, .int .i64 0]) Z Z ae Z bU Z Z Z λ FR ml ae=> ?_;have:=ml.size;have sj:=Ext.mod cZ ml bs;refine va Z<|va Z<|ai<|rt<|bO<|a8 (.cell Z (ae.all cL bU) (.tmp Z (.tmp Z .nil)))<| ?_;obtain ⟨bc,bl,cH⟩:=ajw (l:=l) lV;exact ⟨⟨none,none,none,none,none,0,0,0,0,0⟩,none,0,by rw [bc,bl,cH];rfl,by rw [bl];exact bq.zero _ _,by rw [cH];exact τ.aF.nil _,λ q I=>by simp [τ.ag] at I,sj⟩
 ·have bB:=Good.A8 lV;have E7:=bB.eg;refine bt<|az<|aj<|vm Z<|J (cm underlying124 Z)<|J (h0 Z Z)<|ai<| ?_;refine en Z (λ ua=> ?_) (λ ua=> ?_)
  ·refine aj<|J (v:= .agg #[.int .i64 0, .int .i64 0, .slice none 0 0, .slice none 0 0, .slice none 0 0, .slice none 0 0, .slice none 0 0, .int .i64 0, .int .i64 0]) (cE Z (by kernel_rfl))<| ?_;have ae:=ae.later fw;refine st (new:= [.int .i64 0, .int .i64 0, .slice none 0 0, .slice none 0 0, .slice none 0 0, .slice none 0 0, .slice none 0 0, .int .i64 0, .int .i64 0]) Z Z ae Z bU Z Z Z λ td xG ae=> ?_;have:=xG.size;have kf:=Ext.mod cZ xG bs;refine va Z<|va Z<|ai<|rt<|bO<|a8 (.cell Z (ae.all cL bU) (.tmp Z (.tmp Z .nil)))<| ?_;obtain ⟨bc,bl,cH⟩:=ajx (l:=l) lV (by omega);exact ⟨⟨none,none,none,none,none,0,0,0,0,0⟩,none,0,by rw [bc,bl,cH];rfl,by rw [bl];exact bq.zero _ _,by rw [cH];exact τ.aF.nil _,λ q I=>by simp [τ.ag] at I,kf⟩
  ·refine bt<|aj<| ?_;have ab:=ab.later fw;refine J (ak Z (ab.all cL bU))<|ca asl Z Z ((az4 a W _ (bN.keep cZ)).mono ?_);rintro e uL ⟨a28,rfl,JI,df⟩;refine ⟨_,Z, ?_⟩;have:=df.size;have jl:=γ cZ df;have R7:=λ q I=>(JI.lt q I).2;have HX:=λ q I=>(JI.lt q I).1;have ab:=ab.later df;refine st Z Z ab Z bU Z Z Z λ FU kb ab=> ?_;have:=kb.size;have q4:=Ext.mod jl kb bs;refine ai<|aj<|J (ak Z (ab.all cL bU))<|vm Z<| ?_;have JI:=JI.mod kb (bu HX);refine ca asm Z Z ((az7 _ a28 W _ _ l _ JI (aB.keep q4) (λ aG q I Φ=>by have κ:=aB.azB (by decide) aG q I;have aa:=HX q (rE Φ);omega) (by omega)).mono ?_);rintro e Nc ⟨amY,apZ,rfl,JR,Of,A1⟩;refine ⟨_,Z, ?_⟩;have:=A1.size;have x7:=Ext.mod q4 A1 (λ q I=>by have bd:=HX q (rE I);omega);rw [aDp a28 W l] at ab;have aD0:=λ q I=>(JR.lt q I).2;have XT:=λ q I=>(JR.lt q I).1;have aQq:=λ q I=>(Of.lt q I).2;have aKH:=Ze W l;refine va Z<|ai<|aj<| ?_;have yG:∀ q∈τ.ag a28.T,q=bJ→False:=λ q I Φ=>by (have:=HX q (rE I);omega)
   have ab:=ab.mod A1 (λ I=>yG _ I rfl);refine J (ak Z (ab.all cL bU))<|vm Z<| ?_;have ae:=ae.later (γ fw df);have ae:=ae.mod kb aN;have yH:∀ q∈τ.ag a28.T,q=cu→False:=λ q I Φ=>by (have:=HX q (rE I);omega)
   have ae:=ae.mod A1 (λ I=>yH _ I rfl);refine st Z Z ae Z bU Z Z Z λ Sp kp ae=> ?_;have:=kp.size;have uV:=Ext.mod x7 kp bs;refine va Z<|va Z<|ai<|rt<|a8 (.cell Z (ae.all cL bU) (.tmp Z (.tmp Z .nil)))<| ?_;have Of:=Of.mod kp (bu HX);have JR:=JR.mod kp (bu XT);obtain ⟨bc,bl,cH⟩:=Rb (l:=l) lV (by omega);exact ⟨a28,amY,apZ,by rw [bc,bl,cH];rfl,by rw [bl];exact Of.down (by omega),by rw [cH];exact JR.down (by omega),λ q I hf=>by (have:=XT q I;(have:=R7 q hf;omega)),uV⟩
end
section
structure ck where
 kind:Int
 aQ:Int
 spot:ax
 what:Int
 deriving DecidableEq,Inhabited
namespace ck
def cells (a:ck):List Value:= [.int .i64 (a.kind), .int .i64 (a.aQ), .int .i64 (a.spot.x), .int .i64 (a.spot.y), .int .i64 (a.what)]
def ok (a:ck):Prop:=(Lit.int .i64 a.kind).wf=true∧(Lit.int .i64 a.aQ).wf=true∧(Lit.int .i64 a.spot.x).wf=true∧(Lit.int .i64 a.spot.y).wf=true∧(Lit.int .i64 a.what).wf=true
def raw (j:Nat) (u:Value):Prop:=match j with
 | 0=>∃ n:Int,u= .int .i64 n
 | 1=>∃ n:Int,u= .int .i64 n
 | 2=>∃ n:Int,u= .int .i64 n
 | 3=>∃ n:Int,u= .int .i64 n
 | 4=>∃ n:Int,u= .int .i64 n
 | _=>True
theorem rr (a:ck):∀ (j:Nat) u,a.cells[j]? =some u→raw j u:=by
 intro j u hu
 match j,hu with
 | 0,hu=>exact ⟨_,(aRR hu).symm⟩
 | 1,hu=>exact ⟨_,(aRR hu).symm⟩
 | 2,hu=>exact ⟨_,(aRR hu).symm⟩
 | 3,hu=>exact ⟨_,(aRR hu).symm⟩
 | 4,hu=>exact ⟨_,(aRR hu).symm⟩
 | j+5,hu=>exact trivial
theorem rq (a:ck):∀ u∈a.cells,u.oneCell'=true:=by
 intro u hu;unfold cells at hu;simp only [aSc,aTg,aTX] at hu;rcases hu with rfl | rfl | rfl | rfl | rfl<;>rfl
def rep:τ ck:=τ.flat 5 cells ok raw (λ _=>rfl) rq rr
def zero:Value:= .agg #[.int .i64 0, .int .i64 0, .int .i64 0, .int .i64 0, .int .i64 0]
theorem iE:∀ (j:Nat) u,zero.cells[j]? =some u→rep.raw j u:=by
 intro j u hu;have hu:(#[(.int .i64 0:Value),(.int .i64 0:Value),(.int .i64 0:Value),(.int .i64 0:Value),(.int .i64 0:Value)]:Array Value)[j]? =some u:=hu
 match j,hu with
 | 0,hu=>exact ⟨_,(aRR hu).symm⟩
 | 1,hu=>exact ⟨_,(aRR hu).symm⟩
 | 2,hu=>exact ⟨_,(aRR hu).symm⟩
 | 3,hu=>exact ⟨_,(aRR hu).symm⟩
 | 4,hu=>exact ⟨_,(aRR hu).symm⟩
 | j+5,hu=>cases hu
theorem info:(prog.info? 178).map (λ i=>(i.zero,i.size,i.bytes))=some (some zero,5,40):=by kernel_rfl
def sh:gM:=(.cons (.int .i64) (.cons (.int .i64) (.cons (.cons (.int .i64) (.cons (.int .i64) .nil)) (.cons (.int .i64) .nil))))
end ck
theorem avL {w:World} {cs:List Value} {a:ck} (h:ck.rep.has w cs a):cs=a.cells:=aTQ (show cs=a.cells∧a.ok from h)
end
section
def beside (a b:ax):Bool:=cO b.x (a.x - 1) (a.x+1) && cO b.y (a.y - 1) (a.y+1)
namespace ah
def place (W:ah) (c:ax):Nat:=(c.y * W.field.wide+c.x).toNat
def qv (t:bf) (n:Int):bf:= {t with load:=t.load+n}
def nH (W:ah) (d:ck):Option ah :=
 match W.ao.findIdx? (hg d.aQ) with
 | none=>none
 | some k =>
  let t:=W.ao.getD k default
  let m:=W.br.getD (W.place d.spot) 0
  if t.kind == 1 && decide (t.load<5) && beside t.spot d.spot && W.field.fi d.spot && m != 0 then
   some {W with br:=W.br.set (W.place d.spot) (m - 1),ao:=W.ao.set k (qv t 1)}
  else none
def drop (W:ah) (d:ck):Option ah :=
 match W.ao.findIdx? (hg d.aQ) with
 | none=>none
 | some k =>
  let t:=W.ao.getD k default
  let o:=t.owner.toNat
  let s:=W.bh.getD o 0
  let n:=min t.load (1000000 - s)
  if t.load != 0 && beside (W.aU.getD o default) t.spot && decide (0<n) then
   some {W with bh:=W.bh.set o (s+n),ao:=W.ao.set k (qv t (-n))}
  else none
def around (c:ax):List ax :=
 [c,⟨c.x - 1,c.y - 1⟩,⟨c.x,c.y - 1⟩,⟨c.x+1,c.y - 1⟩,⟨c.x - 1,c.y⟩,⟨c.x,c.y⟩,⟨c.x+1,c.y⟩,⟨c.x - 1,c.y+1⟩,⟨c.x,c.y+1⟩,⟨c.x+1,c.y+1⟩]
def Da (W:ah) (c:ax):Bool:=W.field.ground c && !W.ao.any (qJ c)
def free (W:ah) (c:ax):Option ax:=(around c).find? W.Da
def rR (W:ah) (d:ck):Option ah :=
 let s:=W.bh.getD d.aQ.toNat 0
 if cO d.aQ 0 ((W.aU.length:Int) - 1) && cO d.what 1 2 && decide (kT d.what≤s) && decide (W.ao.length<100) && decide (W.next<1000000) then
  match W.free (W.aU.getD d.aQ.toNat default) with
  | none=>none
  | some c=>some {W with ao:=W.ao++ [⟨W.next,d.aQ,d.what,c,ka d.what,0⟩],next:=W.next+1,bh:=W.bh.set d.aQ.toNat (s - kT d.what)}
 else none
def lv (W:ah) (d:ck):Option ah:=if d.kind=1 then W.nH d else if d.kind=2 then W.drop d else if d.kind=3 then W.rR d else none
def h1 (W:ah):List ck→ah×List Bool
 | []=>(W, [])
 | d::l=>match W.lv d with
  | some V=>((V.h1 l).1,true::(V.h1 l).2)
  | none=>((W.h1 l).1,false::(W.h1 l).2)
end ah
theorem He {l:List bf} {id:Int} {k:Nat} (h:l.findIdx? (hg id)=some k):∃ t,l[k]? =some t∧t.id=id∧l.getD k default=t:=by
 obtain ⟨κ,aa,_⟩:=aUi.1 h;exact ⟨l[k],aRT κ,by simpa [hg] using aa,by rw [aRQ,aRT κ];rfl⟩
theorem aC8 {W V:ah} {k:Nat} {t u:bf} (nw:V.ao=W.ao.set k u) (aE:W.ao[k]? =some t) (hs:u.spot=t.spot) (i:Nat):V.jf i=W.jf i:=by
 unfold ah.jf;rw [nw,List.take_set,aS7];by_cases pX:k<i
 ·have κ:((W.ao.take i).map (·.spot))[k]? =some t.spot:=by rw [aSa,aSy,aR5 pX,aE];rfl
  obtain ⟨aa,aw⟩:=aRS.1 κ;rw [hs,← aw];exact aTz _
 ·rw [List.set_eq_of_length_le (by rw [aSp,aRU];omega)]
theorem ay0 {W V:ah} {k:Nat} {t u:bf} (nw:V.ao=W.ao.set k u) (aE:W.ao[k]? =some t) (hs:u.id=t.id) (i:Nat):V.jQ i=W.jQ i:=by
 unfold ah.jQ;by_cases ar:i=0
 ·rw [aR5 ar,aR5 ar]
 ·rw [aR0 ar,aR0 ar,nw,aRQ,aRQ];by_cases av:k=i - 1
  ·subst av;rw [aSg (aRS.1 aE).1,aE];exact hs
  ·rw [aSl av]
theorem T1 {W V:ah} {k:Nat} {t u:bf} (nw:V.ao=W.ao.set k u) (aE:W.ao[k]? =some t) {i:Nat} {x:bf} (hx:V.ao[i]? =some x):(i=k∧x=u)∨(i≠k∧W.ao[i]? =some x):=by
 rw [nw] at hx;by_cases av:k=i
 ·subst av;rw [aSg (aRS.1 aE).1] at hx;exact .inl ⟨Z,(aRR hx).symm⟩
 ·rw [aSl av] at hx;exact .inr ⟨aUx av,hx⟩
theorem Good.turned {W V:ah} (h:Good W) {k:Nat} {t:bf} {n:Int} (aE:W.ao[k]? =some t) (nw:V.ao=W.ao.set k (ah.qv t n)) (aB:0≤t.load+n∧t.load+n≤ah.A6 t.kind)
  (hf:V.field=W.field) (Φ:V.aU=W.aU) (hn:V.next=W.next) (hw:V.now=W.now)
  (sP:V.bh.length=W.bh.length) (hs:∀ (i:Nat) s,V.bh[i]? =some s→0≤s∧s≤1000000)
  (E6:V.br.length=W.br.length) (hm:∀ (i:Nat) m,V.br[i]? =some m→0≤m∧m≤1000000∧(m≤0∨W.field.aS.getD i 0=3)):Good V:=by
 have κ:=h.ao k t aE;have hlen:V.ao.length=W.ao.length:=by rw [nw,aR1]
 refine ⟨by rw [hf];exact h.field,by rw [Φ];exact h.kr,by rw [hlen];exact h.eg,by rw [sP,Φ];exact h.sl, ?_,hs,by rw [E6,hf];exact h.xI,by rw [hf];exact hm,λ i x hx=> ?_,λ i x hx=> ?_,λ i x hx=> ?_,by rw [hn];exact h.next,by rw [hw];exact h.now⟩
 ·rw [Φ,hf];exact h.aU
 ·rw [hf,Φ];rcases T1 nw aE hx with ⟨rfl,rfl⟩ | ⟨_,hx⟩
  ·exact ⟨κ.kind,κ.owner,κ.ground,κ.c7,aB⟩
  ·exact h.ao i x hx
 ·rw [ay0 nw aE rfl,hn];rcases T1 nw aE hx with ⟨rfl,rfl⟩ | ⟨_,hx⟩
  ·exact h.ids i t aE
  ·exact h.ids i x hx
 ·rw [aC8 nw aE rfl];rcases T1 nw aE hx with ⟨rfl,rfl⟩ | ⟨_,hx⟩
  ·exact h.jf i t aE
  ·exact h.jf i x hx
theorem azW {W V:ah} {d:ck} (h:W.nH d=some V):∃ (k:Nat) (t:bf),W.ao.findIdx? (hg d.aQ)=some k∧W.ao[k]? =some t∧t.id=d.aQ∧t.kind=1∧t.load<5∧beside t.spot d.spot=true∧W.field.fi d.spot=true∧W.br.getD (W.place d.spot) 0≠0∧
  V= {W with br:=W.br.set (W.place d.spot) (W.br.getD (W.place d.spot) 0 - 1),ao:=W.ao.set k (ah.qv t 1)}:=by
 unfold ah.nH at h;cases hf:W.ao.findIdx? (hg d.aQ) with
 | none=>rw [hf] at h;cases h
 | some k =>
  rw [hf] at h;obtain ⟨t,aE,hid,aO⟩:=He hf;simp only [aO] at h;split at h
  ·rename_i hc
   simp only [aRY,aSj,aVn,aSQ] at hc;exact ⟨k,t,Z,aE,hid,hc.1.1.1.1,hc.1.1.1.2,hc.1.1.2,hc.1.2,hc.2,(aRR h).symm⟩
  ·cases h
theorem ar4 {W V:ah} {d:ck} (h:W.drop d=some V):∃ (k:Nat) (t:bf) (n:Int),W.ao.findIdx? (hg d.aQ)=some k∧W.ao[k]? =some t∧t.id=d.aQ∧t.load≠0∧beside (W.aU.getD t.owner.toNat default) t.spot=true∧n=min t.load (1000000 - W.bh.getD t.owner.toNat 0)∧0<n∧
  V= {W with bh:=W.bh.set t.owner.toNat (W.bh.getD t.owner.toNat 0+n),ao:=W.ao.set k (ah.qv t (-n))}:=by
 unfold ah.drop at h;cases hf:W.ao.findIdx? (hg d.aQ) with
 | none=>rw [hf] at h;cases h
 | some k =>
  rw [hf] at h;obtain ⟨t,aE,hid,aO⟩:=He hf;simp only [aO] at h;split at h
  ·rename_i hc
   simp only [aRY,aSj,aVn] at hc;exact ⟨k,t,_,Z,aE,hid,hc.1.1,hc.1.2,Z,hc.2,(aRR h).symm⟩
  ·cases h
theorem awj {W V:ah} {d:ck} (h:W.rR d=some V):∃ c:ax,W.free (W.aU.getD d.aQ.toNat default)=some c∧0≤d.aQ∧d.aQ<(W.aU.length:Int)∧(d.what=1∨d.what=2)∧ah.kT d.what≤W.bh.getD d.aQ.toNat 0∧W.ao.length<100∧W.next<1000000∧
  V= {W with ao:=W.ao++ [⟨W.next,d.aQ,d.what,c,ah.ka d.what,0⟩],next:=W.next+1,bh:=W.bh.set d.aQ.toNat (W.bh.getD d.aQ.toNat 0 - ah.kT d.what)}:=by
 unfold ah.rR at h;simp only at h;split at h
 ·rename_i hc
  simp only [aRY,aSj] at hc;have a:=kO hc.1.1.1.1;have b:=kO hc.1.1.1.2;split at h
  ·cases h
  ·rename_i c ny
   exact ⟨c,ny,a.1,by omega,by omega,hc.1.1.2,hc.1.2,hc.2,(aRR h).symm⟩
 ·cases h
theorem aBr (k:Int):0≤ah.kT k:=by unfold ah.kT;split<;>(try split)<;>omega
theorem Good.nH {W V:ah} {d:ck} (h:Good W) (hd:W.nH d=some V):Good V:=by
 obtain ⟨k,t,_,aE,_,av,aB,_,dv,E4,rfl⟩:=azW hd;have κ:=h.ao k t aE;have W0:ah.A6 t.kind=5:=by rw [av];rfl
 obtain ⟨i1,i2,_⟩:=aD.idx h.field dv;have bC:W.place d.spot<W.br.length:=by rw [h.xI];unfold ah.place;omega
 obtain ⟨m,hm⟩:=hP bC;have aa:=h.br _ m hm;have aO:W.br.getD (W.place d.spot) 0=m:=by rw [aRQ,hm];rfl
 rw [aO] at E4 ⊢;refine h.turned aE Z (by have:=κ.load;omega) Z Z Z Z Z h.bh (by simp) λ i x hx=> ?_;simp only at hx;by_cases ar:W.place d.spot=i
 ·subst ar;rw [aSg bC] at hx;obtain rfl:=aRR hx;refine ⟨by omega,by omega, ?_⟩;rcases aa.2.2 with aw | aw
  ·omega
  ·exact .inr aw
 ·rw [aSl ar] at hx;exact h.br i x hx
theorem Good.drop {W V:ah} {d:ck} (h:Good W) (hd:W.drop d=some V):Good V:=by
 obtain ⟨k,t,n,_,aE,_,aB,_,hn,agQ,rfl⟩:=ar4 hd;have κ:=h.ao k t aE;have bC:t.owner.toNat<W.bh.length:=by rw [h.sl];have:=κ.owner;omega
 obtain ⟨s,hs⟩:=hP bC;have aa:=h.bh _ s hs;have aO:W.bh.getD t.owner.toNat 0=s:=by rw [aRQ,hs];rfl
 rw [aO] at hn ⊢;refine h.turned aE Z (by have:=κ.load;omega) Z Z Z Z (by simp) (λ i x hx=> ?_) Z h.br;simp only at hx;by_cases ar:t.owner.toNat=i
 ·subst ar;rw [aSg bC] at hx;obtain rfl:=aRR hx;omega
 ·rw [aSl ar] at hx;exact h.bh i x hx
theorem Good.rR {W V:ah} {d:ck} (h:Good W) (hd:W.rR d=some V):Good V:=by
 obtain ⟨c,ny,axL,nC,av,hp,E7,vJ,rfl⟩:=awj hd;have vK:=aUX ny;unfold ah.Da at vK;rw [aRY] at vK;have pQ:∀ t∈W.ao,t.spot≠c:=λ t aE he=>by
  have:=vK.2;rw [aS8,aVB] at this;exact this t aE (by simp [qJ,he])
 have bC:d.aQ.toNat<W.bh.length:=by rw [h.sl];omega
 obtain ⟨s,hs⟩:=hP bC;have aa:=h.bh _ s hs;have aO:W.bh.getD d.aQ.toNat 0=s:=by rw [aRQ,hs];rfl
 rw [aO] at hp ⊢;have QD:=aBr d.what;have hn:=h.next;have ahm:∀ i,i≤W.ao.length→ah.jf {W with ao:=W.ao++ [⟨W.next,d.aQ,d.what,c,ah.ka d.what,0⟩],next:=W.next+1,bh:=W.bh.set d.aQ.toNat (s - ah.kT d.what)} i=W.jf i:=λ i ar=>by
  unfold ah.jf;simp only;rw [aVR ar]
 have Qr:∀ i,i≤W.ao.length→ah.jQ {W with ao:=W.ao++ [⟨W.next,d.aQ,d.what,c,ah.ka d.what,0⟩],next:=W.next+1,bh:=W.bh.set d.aQ.toNat (s - ah.kT d.what)} i=W.jQ i:=λ i ar=>by
  unfold ah.jQ;simp only;by_cases aG:i=0
  ·rw [aR5 aG,aR5 aG]
  ·rw [aR0 aG,aR0 aG,aRQ,aRQ,aSd (by omega)]
 have fL:∀ (i:Nat) x,(W.ao++ [(⟨W.next,d.aQ,d.what,c,ah.ka d.what,0⟩:bf)])[i]? =some x→(i<W.ao.length∧W.ao[i]? =some x)∨(i=W.ao.length∧x=⟨W.next,d.aQ,d.what,c,ah.ka d.what,0⟩):=λ i x hx=>by
  by_cases ar:i<W.ao.length
  ·rw [aSd ar] at hx;exact .inl ⟨ar,hx⟩
  ·rw [aSf (by omega)] at hx;have aG:i - W.ao.length=0:=by
    have:=(aRS.1 hx).1;simp at this;omega
   rw [aG] at hx;exact .inr ⟨by omega,by simpa using hx.symm⟩
 have aKC:W.jQ W.ao.length<W.next∧0≤W.jQ W.ao.length:=by
  by_cases aG:W.ao.length=0
  ·rw [aG];exact ⟨by show (0:Int)<_;omega,aTh _⟩
  ·obtain ⟨t,aE⟩:=hP (l:=W.ao) (i:=W.ao.length - 1) (by omega);have a6:=h.ids _ t aE;have e:W.jQ W.ao.length=t.id:=by
    unfold ah.jQ;rw [aR0 aG,aRQ,aE];rfl
   rw [e];omega
 refine ⟨h.field,h.kr,by simp;omega,by simp;exact h.sl,h.aU,λ i x hx=> ?_,h.xI,h.br,λ i x hx=> ?_,λ i x hx=> ?_,λ i x hx=> ?_,by simp only;omega,h.now⟩
 ·simp only at hx;by_cases ar:d.aQ.toNat=i
  ·subst ar;rw [aSg bC] at hx;obtain rfl:=aRR hx;omega
  ·rw [aSl ar] at hx;exact h.bh i x hx
 ·rcases fL i x hx with ⟨_,hx⟩ | ⟨_,rfl⟩
  ·exact h.ao i x hx
  ·exact ⟨av,⟨axL,nC⟩,vK.1,by simp only;rcases av with h | h<;>rw [h]<;>decide,by simp only;rcases av with h | h<;>rw [h]<;>decide⟩
 ·rcases fL i x hx with ⟨ar,hx⟩ | ⟨rfl,rfl⟩
  ·rw [Qr i (by omega)];have:=h.ids i x hx;simp only;omega
  ·rw [Qr _ (aR3 _)];simp only;omega
 ·rcases fL i x hx with ⟨ar,hx⟩ | ⟨rfl,rfl⟩
  ·rw [ahm i (by omega)];exact h.jf i x hx
  ·rw [ahm _ (aR3 _)];simp only;cases hc:(W.jf W.ao.length).contains c with
   | false=>rfl
   | true =>
    rw [aU6] at hc;unfold ah.jf at hc;obtain ⟨t,aE,he⟩:=aSz.1 hc;exact absurd he (pQ t (aTE aE))
theorem Good.lv {W V:ah} {d:ck} (h:Good W) (hd:W.lv d=some V):Good V:=by
 unfold ah.lv at hd;split at hd
 ·exact h.nH hd
 ·split at hd
  ·exact h.drop hd
  ·split at hd
   ·exact h.rR hd
   ·cases hd
theorem Good.h1 {W:ah} (h:Good W):∀ l:List ck,Good (W.h1 l).1:=by
 intro l;induction l generalizing W with
 | nil=>exact h
 | cons d l bF =>
  unfold ah.h1;cases hd:W.lv d with
  | none=>exact bF h
  | some V=>exact bF (h.lv hd)
end
end Go.Proofs.YtlikikpgmmkjbaaGreat
