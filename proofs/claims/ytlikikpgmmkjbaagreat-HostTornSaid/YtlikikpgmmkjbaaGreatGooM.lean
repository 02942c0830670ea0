import Derived.Test.YtlikikpgmmkjbaaGreatHitS
set_option linter.unusedVariables false
set_option linter.unusedSimpArgs false
set_option maxRecDepth 100000
set_option maxHeartbeats 4000000
open Go.RowKit
namespace Go.Proofs.YtlikikpgmmkjbaaGreat
open Tryz
abbrev aRX:=@Classical.byContradiction
abbrev aTT:=@bne_iff_ne
abbrev aUc:=@List.contains_iff_mem
section
theorem ane:fh prog bK 22 3 8:=fh.lF (z:= .int .i64 0) (k:=1) underlying22 Cl rfl rfl (by decide) (λ j u h=>HQ j u h)
theorem τ.aI.Qa {α:Type} {R:τ α} {by_ c:Nat} {w w':World} {A:Option Addr} {l:List α} {F:List Nat} (h:R.aI by_ w A c l) (hp:R.Plain) (m:Mod F w w') (d:0<l.length→∀ q∈τ.ae A,q∉F):R.aI by_ w' A c l:=by
 obtain ⟨γ,ab,aw,aX,ess,bF,cb,d'⟩:=h;refine ⟨γ,ab,aw,aX,ess,bF.imp (λ es a _ h=>R.sx (R.sy (hp (B:=0) h) (by simp))),cb,λ aF=> ?_⟩;obtain ⟨b,o,rfl,hc⟩:=d' aF;refine ⟨b,o,Z,λ j u hu=> ?_⟩;have gI:=hc j u hu;have Φ:b<w.heap.size:=by
  apply aRX;intro hn;have:w.heap[b]? =none:=aRL (by omega);simp [World.cell?,this] at gI
 have av:=m.block b Φ (d aF b (by simp [τ.ae]));simp only [World.cell?] at gI ⊢;rw [av];exact gI
theorem Oi {w:World} {A:Option Addr} {c:Nat} {T:List ax} (h:ax.rep.aI 16 w A c T) (k:Nat):(T.getD k default).ok:=by
 rw [aQK];cases aD:T[k]? with
 | none=>exact ⟨by decide,by decide⟩
 | some t=>exact h.zL (λ fM=>(show _∧_ from fM).2) t (aRo aD)
theorem Q1 {t:bg} (h:t.ok):t.spot.ok:=by
 obtain ⟨γ,ab,aw,aX,bF,cb,d'⟩:=h;exact ⟨aX,bF⟩
theorem aCr {t:bg} {c:ax} (h:t.ok) (hc:c.ok):(t.bp c).ok:=by
 obtain ⟨γ,ab,aw,aX,bF,cb,d'⟩:=h;exact ⟨γ,ab,aw,hc.1,hc.2,cb,d'⟩
theorem ats {l:List dj} {id:Int} (h:¬ ey l id<0):0≤ey l id∧(ey l id).toNat<l.length:=by
 rcases atr l id with ⟨γ,_⟩ | ⟨k,γ,ab,_⟩<;>omega
theorem akk {f:aE} {l:List dj} {T:List bg} {k:Nat} (h:ey l (T.getD k default).id<0):qt f l T k=none:=by unfold qt;rw [aQZ h]
theorem aBY {f:aE} {l:List dj} {T:List bg} {k:Nat} (aF:0≤ey l (T.getD k default).id)
  (h:(gQ f (T.getD k default).spot (l.getD (ey l (T.getD k default).id).toNat default).bp≠0∨((fL f (T.getD k default).spot (l.getD (ey l (T.getD k default).id).toNat default).bp).length:Int)<2)∨0<iN T ((fL f (T.getD k default).spot (l.getD (ey l (T.getD k default).id).toNat default).bp).getD 1 default)):qt f l T k=none:=by
 unfold qt;rw [aQV (by omega)];split
 ·rfl
 ·split
  ·rfl
  ·rw [aQZ];rcases h with (h | h) | h
   ·contradiction
   ·omega
   ·exact h
theorem aBZ {f:aE} {l:List dj} {T:List bg} {k:Nat} (aF:0≤ey l (T.getD k default).id)
  (h:(gQ f (T.getD k default).spot (l.getD (ey l (T.getD k default).id).toNat default).bp=0∧2≤((fL f (T.getD k default).spot (l.getD (ey l (T.getD k default).id).toNat default).bp).length:Int))∧iN T ((fL f (T.getD k default).spot (l.getD (ey l (T.getD k default).id).toNat default).bp).getD 1 default)≤0):
  qt f l T k=some ((fL f (T.getD k default).spot (l.getD (ey l (T.getD k default).id).toNat default).bp).getD 1 default):=by
 obtain ⟨⟨γ,ab⟩,aw⟩:=h;unfold qt;rw [aQV (by omega),aQV (by simpa using γ),aQV (by omega),aQV (by omega)]
theorem τ.aI.ayl {α:Type} {R:τ α} {by_ c:Nat} {w:World} {A:Option Addr} {l:List α} (h:R.aI by_ w A c l) (hs:0<R.size) (aF:0<l.length):∀ q∈τ.ae A,q<w.heap.size:=by
 obtain ⟨γ,ab,aw,aX,ess,bF,cb,d'⟩:=h;obtain ⟨b,o,rfl,hc⟩:=d' aF;intro q I;obtain rfl:q=b:=by simpa [τ.ae] using I
 have az:0<ess.flatten.length:=by rw [cb];exact Nat.mul_pos aF hs
 have gI:=hc 0 _ (aQN az);apply aRX;intro hn;have:w.heap[q]? =none:=aRL (by omega);simp [World.cell?,this] at gI
theorem awJ (fa:FuncId) (cs:List Value) (p:dj→Bool) (A:Option Addr) (c:Nat) (l:List dj) (w:World) (az:dj.rep.aI 24 w A c l) (lW:Enters prog fa) (dI:∀ x∈l,∀ w',Ext w w'→Calls prog fa (([.agg #[.int .i64 x.id, .int .i64 x.bp.x, .int .i64 x.bp.y]]:List Value)++cs).toArray w' λ e lg=>e= .returned (.bool (p x))∧Ext w' lg):
  Calls prog 135 #[.slice A l.length c, .func (.func fa) #[] cs.toArray] w (λ e w'=>e= .returned (.int .i64 (gb p l))∧Ext w w'):=by
 have pD:=az.d_;refine cd (n:=19) func135 Z Z Z ?_;refine aj<|va Z<|ai<|aB<|aj<|vm Z<|J (cu underlying124 Z)<|vm Z<|ai<|bR<| ?_;refine fg (λ cm cl a6=>∃ k:Nat,cl= [(0, .slice A l.length c),(1, .func (.func fa) #[] cs.toArray),(7, .int .i64 (l.length:Int)),(8, .int .i64 (k:Int))]∧cm=l.length - k∧Ext w a6∧(k≤l.length)∧(∀ i,i<k→p (l.getD i default)=false)) _ _ ⟨0,Z,Z,(Ext.bI w),by omega,λ i ar=>by omega⟩ (.cons Z (.cons Z (.cons Z (.cons (b2 Z (by first | omega | rfl | (simp<;>omega))) .nil)))) ?_;rintro LJ II cO ⟨k,rfl,rfl,bk,av,aM⟩;have:=bk.size;refine aj<|J (blt Z Z)<|ai<|aB<| ?_;refine ef Z (λ lx=> ?_) (λ lx=> ?_)
 ·refine bs<|aB<|bR<|aj<|vm Z<|va Z<|ai<|aj<|vm Z<|vm Z<|vm Z<|J (b5 k underlying124 Ug Z Z ((az.keep bk).bL (a7 k)) Z (by omega))<|J (ao Z (τ.aI.hE ae4 ((az.keep bk).cA (a7 k)) (df (l:=l) (u:=default) (by omega)) asr Ug))<|Oo lW Z Z Z ((dI (l.getD k default) (jj (by omega)) _ bk).mono ?_);rintro e H' ⟨rfl,xF⟩;refine ⟨_,Z, ?_⟩;have:=xF.size;have l3:=κ bk xF;refine ai<| ?_;refine dT Z (λ ly=> ?_) (λ ly=> ?_)
  ·refine aj<|vm Z<|va Z<|ai<|rt<|ej<|bN<|lK<|ej<|bN<|bb (.tmp Z .nil)<| ?_;exact ⟨by have e:=P9 (p:=p) (l:=l) (d:=default) (k:=k) (by omega) ly aM;rw [e];rfl,l3⟩
  ·refine e6<|bX<|aV<|rg<|J (bad Z Z (bG (by omega)))<|vm Z<|nl<| ?_;exact c' _ _ ⟨k+1,Z,Z,l3,by omega,sq aM ly⟩ (by omega) (.cons Z (.cons Z (.cons Z (.cons (b2 Z (by first | omega | rfl | (simp<;>omega))) .nil))))
 ·refine dN<|dL<|ed<|dK<|aV<|aj<|va Z<|ai<|rt<|bb (.tmp Z .nil)<| ?_;exact ⟨by have e:=P8 (p:=p) (l:=l) (d:=default) (λ i ar=>aM i (by omega));rw [e];rfl,bk⟩
theorem ayA (x:dj) (b k:Nat) (A:Option Addr) (c:Nat) (T:List bg) (w:World) (aL:aQ w b [.pointer (some ⟨eM A,kb A+k * 7,none⟩)] 227 (0,0)) (b4:bg.rep.aI 56 w A c T) (av:k<T.length):
  Calls prog 136 #[.agg #[.int .i64 x.id, .int .i64 x.bp.x, .int .i64 x.bp.y], .pointer (some ⟨b,0,none⟩)] w (λ e w'=>e= .returned (.bool (x.id == (T.getD k default).id))∧Ext w w'):=by
 have xl:=aL.lt;refine cd (n:=11) func136 Z Z Z ?_;refine aj<|cB Z Z Z Z λ cO bJ ba eb aa=> ?_;have:=ba.size;have bk:=κ (Ext.bI w) ba;have eh:=aa.lt;refine va Z<|ai<|aB<| ?_;refine rd [(1,0),(2,0),(5,0)] [0,1,2,3,4,5,6,7] (by kernel_rfl) (by kernel_rfl) ?_;refine aq Z (λ _=>au ass Z)<|bE Z (λ _ x=>ao Z ((aa.later x).one bd Z))<| ?_;have aL:=aL.later ba;refine bE Z (λ _ x=>ao Z ((aL.later x).one Gz Z))<|aq Z (λ _=>bY Z)<|aq Z (λ _=>au Gx Z)<|bE Z (λ _ x=>ao Z (τ.aI.jN jf ((b4.keep (κ bk x)).cA (a7 k)) 0 (df (l:=T) (u:=default) (by omega)) Z bd))<|aq Z (λ _=>beq Z Z)<|aq Z (λ _=>eY Z)<|fn λ eA cF=> ?_;have:=cF.size;have bO:=κ bk cF;refine aV<|rt<|bb (.tmp Z .nil)<| ?_;exact ⟨Z,bO⟩
theorem ayz (b k:Nat) (l:List dj) (A:Option Addr) (c:Nat) (NM:Option Addr) (tc:Nat) (T:List bg) (w:World) (az:dj.rep.aI 24 w A c l) (aL:aQ w b [.pointer (some ⟨eM NM,kb NM+k * 7,none⟩)] 227 (0,0)) (b4:bg.rep.aI 56 w NM tc T) (av:k<T.length):
  Calls prog 135 #[.slice A l.length c, .func (.func 136) #[] #[.pointer (some ⟨b,0,none⟩)]] w (λ e w'=>e= .returned (.int .i64 (ey l (T.getD k default).id))∧Ext w w'):=
 awJ 136 [.pointer (some ⟨b,0,none⟩)] (λ g=>g.id == (T.getD k default).id) A c l w az ast (λ x hx w' h=>ayA x b k NM tc T w' (aL.later h) (b4.keep h) av)
theorem aCb (w0:World) (a:ag.cc) (W:ag) (A:Option Addr) (c:Nat) (l:List dj) (w:World) (ck:bK.aI 8 w a.P a.p W.field.aW) (b4:bg.rep.aG 66 56 w w0.heap.size (τ.ae a.T) a.T a.t W.ak) (auL:∀ q∈τ.ae a.P,q∉τ.ae a.T) (az:dj.rep.aI 24 w A c l) (G2:0<l.length→∀ q∈τ.ae A,q∉τ.ae a.T) (Cf:W.ak.length≤100000):
  Calls prog 98 #[.agg ((ag.cells a W).toArray), .slice A l.length c] w (λ e w'=>∃ bH bV,e= .returned (.slice bH (W.lJ l).2.length bV)∧bK.aG 3 8 w' w.heap.size (τ.ae bH) bH bV (W.lJ l).2∧bg.rep.aG 66 56 w' w0.heap.size (τ.ae a.T) a.T a.t (W.lJ l).1.ak∧Mod (τ.ae a.T) w w'):=by
 have nZ:=λ q I=>(b4.lt q I).2;have aIP:∀ q∈τ.ae a.T,w0.heap.size≤q:=λ q I=>(b4.lt q I).1;have afS:=Ye b4.has;refine cd (n:=110) func98 Z Z Z ?_;refine aj<|cB Z Z Z Z λ cO bJ ba eb aa=> ?_;have:=ba.size;have bk:=(Mod.bI (τ.ae a.T) w).trans (Mod.bD ba);have eh:=aa.lt;refine va Z<|ai<|aj<|W_ Z λ eA yX bm hT aaj=> ?_;have:=bm.size;have bO:=bk.trans (Mod.bD bm);have hI:=aaj.lt;have amm:=km.of_nil aaj;refine va Z<|ai<|aB<|aj<|J (au jL Z)<| ?_;have aa:=aa.later bm;refine J (ao Z (aa.one lr Z))<|J (cu underlying26 Z)<|vm Z<|ai<|bR<| ?_;have b4:=b4.later (κ ba bm);refine fg (λ cm cl a6=>∃ k:Nat,cl= [(1, .slice A l.length c),(2, .pointer (some ⟨bJ,0,none⟩)),(4, .slice none 0 0),(5, .map (some yX)),(17, .slice a.T W.ak.length a.t),(18, .int .i64 (W.ak.length:Int)),(19, .int .i64 (k:Int))]∧cm=W.ak.length - k∧Mod (τ.ae a.T) w a6∧bg.rep.aG 66 56 a6 w0.heap.size (τ.ae a.T) a.T a.t (W.ak)∧aQ a6 bJ (ag.cells a W) 28 (0,0)∧km a6 yX (iN (W.ak.take k))∧(k≤W.ak.length)) _ _ ⟨0,Z,Z,bO,b4,aa,amm,by omega⟩ (.cons Z (.cons Z (.cons Z (.cons Z (.cons Z (.cons Z (.cons (b2 Z (by first | omega | rfl | (simp<;>omega))) .nil))))))) ?_;rintro pI aFU xw ⟨k,rfl,rfl,kj,b4,aa,gG,av⟩;have:=kj.size;have Mk:=λ q I=>(b4.lt q I).2;have oM:=aa.lt;have ajl:=gG.lt;refine aj<|J (blt Z Z)<|ai<|aB<| ?_;refine ef Z (λ tE=> ?_) (λ tE=> ?_)
 ·refine bs<|aB<|bR<|aj<|J (b5 k underlying26 j3 Z Z (b4.has.bL (a7 k)) Z (by omega))<|J (ao Z (τ.aI.hE jf (b4.has.cA (a7 k)) (df (l:=W.ak) (u:=default) (by omega)) ym j3))<|al Z JP Z Z λ sH wy cp ahW eE=> ?_;have:=cp.size;have jY:=kj.trans (Mod.bD cp);have ajm:=eE.lt;refine st (new:= [.int .i64 ((W.ak.getD k default).id), .int .i64 ((W.ak.getD k default).owner), .int .i64 ((W.ak.getD k default).kind), .int .i64 ((W.ak.getD k default).spot.x), .int .i64 ((W.ak.getD k default).spot.y), .int .i64 ((W.ak.getD k default).cY), .int .i64 ((W.ak.getD k default).load)]) Z Z eE Z j3 Z Z Z λ um gC eE=> ?_;have:=gC.size;have iT:=jY.md gC (λ q I=> .inr (by have:=aQJ.1 I;omega));refine ai<| ?_;have gG:=gG.later cp;have gG:=gG.mod gC aR;refine XJ yX (iN (W.ak.take k)) [(2,0),(3,0),(5,2),(7,3)] [0,1,2,3,4,5,6,7] (by kernel_rfl) (by kernel_rfl) ?_;refine sb Z Z (λ _=>aH Z) Z<|sb Z Z (λ _=>au tz Z) Z<|BR Z Z (λ _ x=>ao Z ((eE.mod x.1 aR).par [.int .i64 ((W.ak.getD k default).spot.x), .int .i64 ((W.ak.getD k default).spot.y)] cf bS Z)) Z<|BR Z Z (λ _ x=>Qg (p:=(W.ak.getD k default).spot) (x.2 gG) (Q1 (afS k)) Z Z) Z<|sb Z Z (λ _=>bad Z Z (bG ((by have γ:=QC (W.ak.take k) ((W.ak.getD k default).spot);(try rw [aQP] at γ);omega)))) Z<|UD Z Z Z λ Mo lj Q hK=>meC (p:=(W.ak.getD k default).spot) (gG.later lj) (Q1 (afS k)) Z Z Z λ AT aOA nc Sh=>hK _ _ ⟨(o_.bD lj).trans ⟨nc,λ _=>Sh.map⟩, ?_⟩;have:=lj.size;have rQ:=iT.trans (Mod.bD lj);have:=nc.size;have kF:=rQ.md nc (λ q I=> .inr (by have:=aQJ.1 I;omega));have amn:=Sh.map;have aAD:=amn.lt;refine sb Z Z (λ _=>ex Z Z) Z<|Up Z Z Z λ H_ n4 Q hK=>Ul (Sh.later n4) Z Z Z λ Fl ER Nh=>hK _ _ ?_;have:=n4.size;have uD:=kF.trans (Mod.bD n4);have:=ER.size;have sT:=uD.md ER (λ q I=> .inr (by have:=aQJ.1 I;omega));have ajn:=Nh.lt;refine Uy λ Mu jy=> ?_;have:=jy.size;have xJ:=sT.trans (Mod.bD jy);refine bX<|aV<|rg<|J (bad Z Z (bG (by omega)))<|vm Z<|nl<| ?_;have b4:=b4.later cp;have b4:=b4.mod gC (λ q I h=>by have Φ:=aQJ.1 h;exfalso;(have:=Mk q I;have:=nZ q I;omega));have b4:=b4.later lj;have b4:=b4.mod nc (λ q I h=>by have Φ:=aQJ.1 h;exfalso;(have:=Mk q I;have:=nZ q I;omega));have b4:=b4.later n4;have b4:=b4.mod ER (λ q I h=>by have Φ:=aQJ.1 h;exfalso;(have:=Mk q I;have:=nZ q I;omega));have b4:=b4.later jy;have aa:=aa.later cp;have aa:=aa.mod gC aR;have aa:=aa.later lj;have aa:=aa.mod nc aR;have aa:=aa.later n4;have aa:=aa.mod ER aR;have aa:=aa.later jy;have Nh:=Nh.later jy;exact c' _ _ ⟨k+1,Z,Z,xJ,b4,aa,(by rw [azd (by omega)];exact Nh),by omega⟩ (by omega) (.cons Z (.cons Z (.cons Z (.cons Z (.cons Z (.cons Z (.cons (b2 Z (by first | omega | rfl | (simp<;>omega))) .nil)))))))
 ·refine dN<|dL<|ed<|dK<|aV<|aj<|va Z<|ai<|aB<|aj<|J (au jL Z)<|J (ao Z (aa.one lr Z))<|J (cu underlying26 Z)<|vm Z<|ai<|bR<| ?_;have lu:k=W.ak.length:=by omega
  subst lu;have aai:km xw yX (iN W.ak):=by have h:=gG;rw [aRC] at h;exact h
  refine fg (λ cm cl a6=>∃ k:Nat,∃ T:List bg,∃ M:List Int,∃ xR:Option Addr,∃ Gj:Nat,cl= [(1, .slice A l.length c),(2, .pointer (some ⟨bJ,0,none⟩)),(4, .slice none 0 0),(5, .map (some yX)),(8, .slice xR M.length Gj),(33, .int .i64 (W.ak.length:Int)),(34, .int .i64 (k:Int))]∧cm=W.ak.length - k∧Mod (τ.ae a.T) w a6∧aQ a6 bJ (ag.cells a W) 28 (0,0)∧km a6 yX (iN T)∧bg.rep.aG 66 56 a6 w0.heap.size (τ.ae a.T) a.T a.t (T)∧bK.aG 3 8 a6 w.heap.size (τ.ae xR) xR Gj (M)∧(k≤W.ak.length)∧(jw W.field l W.ak k=(T,M))∧(T.length=W.ak.length)∧(M.length≤k)∧(∀ q∈τ.ae a.T,q=bJ→False)∧(∀ q∈τ.ae a.T,q=yX→False)∧(∀ q∈τ.ae xR,q=bJ→False)∧(∀ q∈τ.ae xR,q=yX→False)∧(∀ q∈τ.ae xR,q∈τ.ae a.T→False)) _ _ ⟨0,W.ak, [],none,0,Z,Z,kj,aa,aai,b4,(τ.aG.nil _),by omega,rfl,rfl,by simp,(λ q I Φ=>by (have:=Mk q I;have:=nZ q I;omega)),(λ q I Φ=>by (have:=Mk q I;have:=nZ q I;omega)),(λ q I Φ=>by (simp [τ.ae] at I)),(λ q I Φ=>by (simp [τ.ae] at I)),(λ q I Φ=>by (simp [τ.ae] at I))⟩ (.cons Z (.cons Z (.cons Z (.cons Z (.cons Z (.cons Z (.cons (b2 Z (by first | omega | rfl | (simp<;>omega))) .nil))))))) ?_;rintro yN aGb Mw ⟨k,T,M,xR,Gj,rfl,rfl,rR,aa,M2,e9,fT,av,hS,U',aI3,mU,q1,tu,nH,nI⟩;have:=rR.size;have aN7:=aa.lt;have aN8:=M2.lt;have Ym:=λ q I=>(e9.lt q I).2;have Rl:=λ q I=>(fT.lt q I).2;have PR:=Ye e9.has;refine aj<|J (blt Z Z)<|ai<|aB<| ?_;refine ef Z (λ Kg=> ?_) (λ Kg=> ?_)
  ·refine bs<|aB<|bR<|aj<|vm Z<|va Z<|ai<|aj<|J (au jL Z)<|J (ao Z (aa.one lr Z))<|vm Z<|J (b5 k underlying26 j3 Z Z (e9.has.bL (a7 k)) Z (by omega))<|al Z asu Z Z λ My abp ij aLJ gF=> ?_;have:=ij.size;have xL:=rR.trans (Mod.bD ij);have aOd:=gF.lt;refine st (new:= [.pointer (some ⟨eM a.T,kb a.T+k * 7,none⟩)]) Z Z gF Z aqS Z Z Z λ RE yP gF=> ?_;have:=yP.size;have sU:=xL.md yP (λ q I=> .inr (by have:=aQJ.1 I;omega));refine ai<|aj<|vm Z<|J (LM Z Z)<| ?_;have e9:=e9.later ij;have e9:=e9.mod yP (b0 Ym);refine ca aqT Z Z ((ayz abp k l A c a.T a.t T _ (az.Qa (τ.dC).1 sU G2) gF e9.has (by omega)).mono ?_);rintro e YE ⟨rfl,hM⟩;refine ⟨_,Z, ?_⟩;have:=hM.size;have uG:=sU.trans (Mod.bD hM);refine va Z<|ai<|aB<|aj<|vm Z<|J (blt Z Z)<|ai<| ?_;refine ef Z (λ tF=> ?_) (λ tF=> ?_)
   ·refine dN<|dL<|dK<|aV<|rg<|J (bad Z Z (bG (by omega)))<|vm Z<|nl<| ?_;have aa:=aa.later ij;have aa:=aa.mod yP aR;have aa:=aa.later hM;have M2:=M2.later ij;have M2:=M2.mod yP aR;have M2:=M2.later hM;have e9:=e9.later hM;have fT:=fT.later ij;have fT:=fT.mod yP (b0 Rl);have fT:=fT.later hM;exact c' _ _ ⟨k+1,T,M,xR,Gj,Z,Z,uG,aa,M2,e9,fT,by omega,E_ hS (akk tF),U',by omega,(λ q I Φ=>by (exact mU q I Φ)),(λ q I Φ=>by (exact q1 q I Φ)),(λ q I Φ=>by (exact tu q I Φ)),(λ q I Φ=>by (exact nH q I Φ)),(λ q I Φ=>by (exact nI q I Φ))⟩ (by omega) (.cons Z (.cons Z (.cons Z (.cons Z (.cons Z (.cons Z (.cons (b2 Z (by first | omega | rfl | (simp<;>omega))) .nil)))))))
   ·obtain ⟨B3,VK⟩:=ats tF;refine bs<|aB<| ?_;refine rd [(1,0),(2,0),(5,0),(10,0),(11,2)] [0,1,2,3,4,5,6,7,8,9,10,11,12,13,14,15,16,17,18] (by kernel_rfl) (by kernel_rfl) ?_;refine aq Z (λ _=>au qc Z)<| ?_;have aa:=aa.later ij;have aa:=aa.mod yP aR;have aa:=aa.later hM;refine bE Z (λ _ x=>ao Z ((aa.later x).par [.int .i64 W.field.wide, .int .i64 W.field.high, .slice a.P W.field.aW.length a.p] kN kO Z))<| ?_;have gF:=gF.later hM;refine bE Z (λ _ x=>ao Z ((gF.later x).one Gz Z))<|aq Z (λ _=>bY Z)<|aq Z (λ _=>au tz Z)<| ?_;have e9:=e9.later hM;refine bE Z (λ _ x=>ao Z (τ.aI.part jf ((e9.later x).has.cA (a7 k)) 3 (ds:= [.int .i64 ((T.getD k default).spot.x), .int .i64 ((T.getD k default).spot.y)]) (df (l:=T) (u:=default) (by omega)) Z cf bS))<|aq Z (λ _=>aH Z)<|aq Z (λ _=>aH Z)<|aq Z (λ _=>b5 ((ey l (T.getD k default).id).toNat) underlying124 Ug Z Z ((az.Qa (τ.dC).1 uG G2).bL (a7 ((ey l (T.getD k default).id).toNat))) (by omega) (by omega))<|aq Z (λ _=>au aqU Z)<|bE Z (λ _ x=>ao Z (τ.aI.part ae4 ((az.Qa (τ.dC).1 (uG.trans (Mod.bD x)) G2).cA (a7 ((ey l (T.getD k default).id).toNat))) 1 (ds:= [.int .i64 ((l.getD ((ey l (T.getD k default).id).toNat) default).bp.x), .int .i64 ((l.getD ((ey l (T.getD k default).id).toNat) default).bp.y)]) (df (l:=l) (u:=default) (by omega)) Z cf bS))<|fG Z Z Z λ Mz gD Q hK=>ca aqV Z Z ((azR W.field ((T.getD k default).spot) ((l.getD ((ey l (T.getD k default).id).toNat) default).bp) _ _ _ (ck.Qa (τ.dC).1 (uG.trans (Mod.bD gD)) (λ _=>auL))).mono ?_);rintro e RG ⟨aGN,aQI,rfl,nD,nx⟩;refine ⟨_,Z,hK _ _ ⟨κ gD nx, ?_⟩⟩;have:=gD.size;have vS:=uG.trans (Mod.bD gD);have:=nx.size;have A8:=vS.trans (Mod.bD nx);have aPv:=λ q I=>(nD.lt q I).2;have aib:=λ q I=>(nD.lt q I).1;have P3:=nD.has;refine aq Z (λ _=>aH Z)<|aq Z (λ _=>ex Z Z)<|aq Z (λ _=>ex Z Z)<|aq Z (λ _=>ex Z Z)<|aq Z (λ _=>eY Z)<|aq Z (λ _=>eY Z)<|aq Z (λ _=>eY Z)<|fn λ MB ki=> ?_;have:=ki.size;have vT:=A8.trans (Mod.bD ki);refine aV<|aB<|aj<|vm Z<|J (bne Z Z)<|vm Z<|aO Z Z Z Z (λ hc=>aH Z) Z<|aO Z Z Z Z (λ hc=>cu underlying25 (gt hc Z)) Z<|aO Z Z Z Z (λ hc=>blt (gt hc Z) Z) Z<|J (ez Z Z Z Z)<|vm Z<|aO Z Z Z Z (λ hc=>aH Z) Z<|aO Z Z Z Z (λ hc=>aH Z) Z<| ?_;have nD:=nD.later ki;refine aO Z Z Z Z (λ hc=>b5 1 underlying25 bS (gt hc Z) Z (nD.has.bL (a7 1 (by (try simp only [cv] at hc);omega))) Z (by (try simp only [cv] at hc);omega)) Z<|aO Z Z Z Z (λ hc=>ao (gt hc Z) (τ.aI.hE wV (nD.has.cA (a7 1 (by (try simp only [cv] at hc);omega))) (df (l:=fL W.field ((T.getD k default).spot) ((l.getD ((ey l (T.getD k default).id).toNat) default).bp)) (u:=default) (by (try simp only [cv] at hc);omega)) cf bS)) Z<| ?_;have M2:=M2.later ij;have M2:=M2.mod yP aR;have M2:=M2.later (κ hM (κ gD (κ nx ki)));refine aO Z Z Z Z (λ hc=>Qg (p:=(fL W.field ((T.getD k default).spot) ((l.getD ((ey l (T.getD k default).id).toNat) default).bp)).getD 1 default) M2 (Oi P3 1) (gt hc Z) (gt hc Z)) Z<|aO Z Z Z Z (λ hc=>iu (gt hc Z) Z) Z<|J (ez Z Z Z Z)<|ai<| ?_;refine dT Z (λ Ki=> ?_) (λ Ki=> ?_)
    ·simp only [cv] at Ki;refine dN<|dL<|dK<|aV<|rg<|J (bad Z Z (bG (by omega)))<|vm Z<|nl<| ?_;have aa:=aa.later (κ gD (κ nx ki));have e9:=e9.later (κ gD (κ nx ki));have fT:=fT.later ij;have fT:=fT.mod yP (b0 Rl);have fT:=fT.later (κ hM (κ gD (κ nx ki)));exact c' _ _ ⟨k+1,T,M,xR,Gj,Z,Z,vT,aa,M2,e9,fT,by omega,E_ hS (aBY (by omega) Ki),U',by omega,(λ q I Φ=>by (exact mU q I Φ)),(λ q I Φ=>by (exact q1 q I Φ)),(λ q I Φ=>by (exact tu q I Φ)),(λ q I Φ=>by (exact nH q I Φ)),(λ q I Φ=>by (exact nI q I Φ))⟩ (by omega) (.cons Z (.cons Z (.cons Z (.cons Z (.cons Z (.cons Z (.cons (b2 Z (by first | omega | rfl | (simp<;>omega))) .nil)))))))
    ·simp only [cv] at Ki;refine bs<|aB<| ?_;refine XJ yX (iN T) [(1,0),(4,0),(5,0),(7,2),(9,3)] [0,1,2,3,4,5,6,7,8,9] (by kernel_rfl) (by kernel_rfl) ?_;refine sb Z Z (λ _=>aH Z) Z<| ?_;have gF:=gF.later (κ gD (κ nx ki));refine BR Z Z (λ _ x=>ao Z ((gF.mod x.1 aR).one Gz Z)) Z<|sb Z Z (λ _=>bY Z) Z<|sb Z Z (λ _=>au tz Z) Z<| ?_;have e9:=e9.later (κ gD (κ nx ki));refine BR Z Z (λ _ x=>ao Z (τ.aI.part jf ((e9.mod x.1 (λ q I h=>by have Φ:=aQJ.1 h;exfalso;(exact q1 q I Φ))).has.cA (a7 k)) 3 (ds:= [.int .i64 ((T.getD k default).spot.x), .int .i64 ((T.getD k default).spot.y)]) (df (l:=T) (u:=default) (by omega)) Z cf bS)) Z<|BR Z Z (λ _ x=>Qg (p:=(T.getD k default).spot) (x.2 M2) (Q1 (PR k)) Z Z) Z<|sb Z Z (λ _=>lV Z Z (bG ((by have γ:=QC T ((T.getD k default).spot);(try rw [aQP] at γ);omega)))) Z<|UD Z Z Z λ YK lO Q hK=>meC (p:=(T.getD k default).spot) (M2.later lO) (Q1 (PR k)) Z Z Z λ aDx aOy lC Sf=>hK _ _ ⟨(o_.bD lO).trans ⟨lC,λ _=>Sf.map⟩, ?_⟩;have:=lO.size;have FQ:=vT.trans (Mod.bD lO);have:=lC.size;have RT:=FQ.md lC (λ q I=> .inr (by have:=aQJ.1 I;omega));have amk:=Sf.map;have aNl:=amk.lt;refine sb Z Z (λ _=>ex Z Z) Z<|Up Z Z Z λ aDA jx Q hK=>Ul (Sf.later jx) Z Z Z λ aDB tR zk=>hK _ _ ?_;have:=jx.size;have YV:=RT.trans (Mod.bD jx);have:=tR.size;have YW:=YV.md tR (λ q I=> .inr (by have:=aQJ.1 I;omega));have aNp:=zk.lt;refine Uy λ ak2 C7=> ?_;have:=C7.size;have Df:=YW.trans (Mod.bD C7);refine aV<|aB<| ?_;refine rd [(0,0),(3,0),(6,3)] [0,1,2,3,4,5,6] (by kernel_rfl) (by kernel_rfl) ?_;have gF:=gF.later lO;have gF:=gF.mod lC aR;have gF:=gF.later jx;have gF:=gF.mod tR aR;have gF:=gF.later C7;refine bE Z (λ _ x=>ao Z ((gF.later x).one Gz Z))<|aq Z (λ _=>aH Z)<| ?_;have nD:=nD.later lO;have nD:=nD.mod lC (bz aib);have nD:=nD.later jx;have nD:=nD.mod tR (bz aib);have nD:=nD.later C7;refine aq Z (λ _=>b5 1 underlying25 bS Z Z (nD.has.bL (a7 1)) Z (by omega))<|bE Z (λ _ x=>ao Z (τ.aI.hE wV ((nD.later x).has.cA (a7 1)) (df (l:=fL W.field ((T.getD k default).spot) ((l.getD ((ey l (T.getD k default).id).toNat) default).bp)) (u:=default) (by omega)) cf bS))<|aq Z (λ _=>bY Z)<|aq Z (λ _=>au tz Z)<| ?_;have e9:=e9.later lO;have e9:=e9.mod lC (λ q I h=>by have Φ:=aQJ.1 h;exfalso;(exact q1 q I Φ));have e9:=e9.later jx;have e9:=e9.mod tR (λ q I h=>by have Φ:=aQJ.1 h;exfalso;(exact q1 q I Φ));have e9:=e9.later C7;refine eo Z Z Z λ Yw Ft Q hK=>aBN (q:=(T).getD k default) (q':=(⟨((T).getD k default).id,((T).getD k default).owner,((T).getD k default).kind,⟨((fL W.field ((T.getD k default).spot) ((l.getD ((ey l (T.getD k default).id).toNat) default).bp)).getD 1 default).x,((fL W.field ((T.getD k default).spot) ((l.getD ((ey l (T.getD k default).id).toNat) default).bp)).getD 1 default).y⟩,((T).getD k default).cY,((T).getD k default).load⟩:bg)) (i:=k) (j:=3) (old:= [.int .i64 (((T).getD k default).id), .int .i64 (((T).getD k default).owner), .int .i64 (((T).getD k default).kind), .int .i64 (((T).getD k default).spot.x), .int .i64 (((T).getD k default).spot.y), .int .i64 (((T).getD k default).cY), .int .i64 (((T).getD k default).load)]) (part:= [.int .i64 (((fL W.field ((T.getD k default).spot) ((l.getD ((ey l (T.getD k default).id).toNat) default).bp)).getD 1 default).x), .int .i64 (((fL W.field ((T.getD k default).spot) ((l.getD ((ey l (T.getD k default).id).toNat) default).bp)).getD 1 default).y)]) (es:= [.int .i64 (((T).getD k default).id), .int .i64 (((T).getD k default).owner), .int .i64 (((T).getD k default).kind), .int .i64 (((fL W.field ((T.getD k default).spot) ((l.getD ((ey l (T.getD k default).id).toNat) default).bp)).getD 1 default).x), .int .i64 (((fL W.field ((T.getD k default).spot) ((l.getD ((ey l (T.getD k default).id).toNat) default).bp)).getD 1 default).y), .int .i64 (((T).getD k default).cY), .int .i64 (((T).getD k default).load)]) (e9.later Ft) τ.dC (df (l:=T) (u:=default) (by omega)) jf Z Z Z Z Z Z (λ _=>⟨Z,(aCr (PR k) (Oi P3 1))⟩) bS λ aDE Hn nE=>hK _ _ ?_;have:=Ft.size;have vQ:=Df.trans (Mod.bD Ft);have:=Hn.size;have YZ:=vQ.md Hn (λ q I=> .inl I);refine fn λ aPP uu=> ?_;have:=uu.size;have aEI:=YZ.trans (Mod.bD uu);refine aV<|aB<| ?_;have zk:=zk.later (κ C7 Ft);have zk:=zk.mod Hn (λ I=>q1 _ I rfl);have zk:=zk.later uu;refine XJ yX (sG (iN T) ((T.getD k default).spot) (((iN T) ((T.getD k default).spot)) - 1)) [(1,0),(4,0),(5,0),(7,2),(9,3)] [0,1,2,3,4,5,6,7,8,9] (by kernel_rfl) (by kernel_rfl) ?_;refine sb Z Z (λ _=>aH Z) Z<| ?_;have gF:=gF.later Ft;have apR:∀ q∈τ.ae a.T,q=abp→False:=λ q I Φ=>by (have:=Ym q I;omega)
     have gF:=gF.mod Hn (λ I=>apR _ I rfl);have gF:=gF.later uu;refine BR Z Z (λ _ x=>ao Z ((gF.mod x.1 aR).one Gz Z)) Z<|sb Z Z (λ _=>bY Z) Z<|sb Z Z (λ _=>au tz Z) Z<| ?_;have nE:=nE.later uu;refine BR Z Z (λ _ x=>ao Z (τ.aI.part jf ((nE.mod x.1 (λ q I h=>by have Φ:=aQJ.1 h;exfalso;(exact q1 q I Φ))).has.cA (a7 k (by rw [aQS];omega))) 3 (ds:= [.int .i64 (((T.getD k default).bp ((fL W.field (T.getD k default).spot (l.getD (ey l (T.getD k default).id).toNat default).bp).getD 1 default)).spot.x), .int .i64 (((T.getD k default).bp ((fL W.field (T.getD k default).spot (l.getD (ey l (T.getD k default).id).toNat default).bp).getD 1 default)).spot.y)]) (aQ9 (by omega)) Z cf bS)) Z<|BR Z Z (λ _ x=>Qg (p:=((T.getD k default).bp ((fL W.field (T.getD k default).spot (l.getD (ey l (T.getD k default).id).toNat default).bp).getD 1 default)).spot) (x.2 zk) (Oi P3 1) Z Z) Z<|sb Z Z (λ _=>bad Z Z (bG ((by have aF:=QC T ((T.getD k default).spot);have γ:=aC4 (x:=((T.getD k default).spot)) (v:=(((iN T) ((T.getD k default).spot)) - 1)) (QC T) (by omega) (by omega) (((T.getD k default).bp ((fL W.field (T.getD k default).spot (l.getD (ey l (T.getD k default).id).toNat default).bp).getD 1 default)).spot);omega)))) Z<|UD Z Z Z λ ak4 mF Q hK=>meC (p:=((T.getD k default).bp ((fL W.field (T.getD k default).spot (l.getD (ey l (T.getD k default).id).toNat default).bp).getD 1 default)).spot) (zk.later mF) (Oi P3 1) Z Z Z λ ak5 aOz EL Sg=>hK _ _ ⟨(o_.bD mF).trans ⟨EL,λ _=>Sg.map⟩, ?_⟩;have:=mF.size;have ML:=aEI.trans (Mod.bD mF);have:=EL.size;have MM:=ML.md EL (λ q I=> .inr (by have:=aQJ.1 I;omega));have aml:=Sg.map;have aNy:=aml.lt;refine sb Z Z (λ _=>ex Z Z) Z<|Up Z Z Z λ aDI Fw Q hK=>Ul (Sg.later Fw) Z Z Z λ ak8 yI F0=>hK _ _ ?_;have:=Fw.size;have Y1:=MM.trans (Mod.bD Fw);have:=yI.size;have MO:=Y1.md yI (λ q I=> .inr (by have:=aQJ.1 I;omega));have aNC:=F0.lt;refine Uy λ aPY vM=> ?_;have:=vM.size;have aEQ:=MO.trans (Mod.bD vM);refine aV<|rg<|vm Z<| ?_;have gF:=gF.later mF;have gF:=gF.mod EL aR;have gF:=gF.later Fw;have gF:=gF.mod yI aR;have gF:=gF.later vM;refine J (ao Z (gF.one Gz Z))<|J (bY Z)<|J (au Gx Z)<| ?_;have nE:=nE.later mF;have nE:=nE.mod EL (λ q I h=>by have Φ:=aQJ.1 h;exfalso;(exact q1 q I Φ));have nE:=nE.later Fw;have nE:=nE.mod yI (λ q I h=>by have Φ:=aQJ.1 h;exfalso;(exact q1 q I Φ));have nE:=nE.later vM;refine J (ao Z (τ.aI.jN jf (nE.has.cA (a7 k (by rw [aQS];omega))) 0 (aQ9 (by omega)) Z bd))<|cX (e:= 3) (cs:= [.int .i64 (((T.getD k default).bp ((fL W.field (T.getD k default).spot (l.getD (ey l (T.getD k default).id).toNat default).bp).getD 1 default)).id)]) Z (λ _=>by kernel_rfl) Z λ ala aoe nt axy IA=> ?_;have:=nt.size;have MP:=aEQ.trans (Mod.bD nt);have aAs:=IA.lt;have fT:=fT.later ij;have fT:=fT.mod yP (b0 Rl);have fT:=fT.later (κ hM (κ gD (κ nx (κ ki lO))));have fT:=fT.mod lC (λ q I h=>by have Φ:=aQJ.1 h;exfalso;(exact nH q I Φ));have fT:=fT.later jx;have fT:=fT.mod tR (λ q I h=>by have Φ:=aQJ.1 h;exfalso;(exact nH q I Φ));have fT:=fT.later (κ C7 Ft);have fT:=fT.mod Hn (λ q I h=>by exfalso;(exact nI q I h));have fT:=fT.later (κ uu mF);have fT:=fT.mod EL (λ q I h=>by have Φ:=aQJ.1 h;exfalso;(exact nH q I Φ));have fT:=fT.later Fw;have fT:=fT.mod yI (λ q I h=>by have Φ:=aQJ.1 h;exfalso;(exact nH q I Φ));have fT:=fT.later (κ vM nt);refine ap ane τ.dC fT (aQ.gJ (R:=bK) (by_:=8) (q:=((T.getD k default).bp ((fL W.field (T.getD k default).spot (l.getD (ey l (T.getD k default).id).toNat default).bp).getD 1 default)).id) IA ⟨Z,bM.2 (bM.1 (PR k).1)⟩ (by decide)) Z Z (by simp only [aQQ,aQX];omega) (by simp only [aQQ,aQX];omega) (by omega) Z λ aDM al4 aoY Hs aaJ UH aMG=> ?_;have:=Hs.size;have Y5:=MP.md Hs (λ q I=> .inr ((λ q I=>aRj (by omega) (fT.lt q I).1) q I));have aCP:=λ q I=>(aaJ.lt q I).2;have:=Hs.size;refine va Z<|nl<|bX<|aV<|rg<|J (bad Z Z (bG (by omega)))<|vm Z<|nl<| ?_;have U9:=Mf hS (aBZ (by omega) Ki);have aa:=aa.later (κ gD (κ nx (κ ki lO)));have aa:=aa.mod lC aR;have aa:=aa.later jx;have aa:=aa.mod tR aR;have aa:=aa.later (κ C7 Ft);have aa:=aa.mod Hn (λ I=>mU _ I rfl);have aa:=aa.later (κ uu mF);have aa:=aa.mod EL aR;have aa:=aa.later Fw;have aa:=aa.mod yI aR;have aa:=aa.later (κ vM nt);have aa:=aa.mod Hs (λ I=>tu _ I rfl);have F0:=F0.later (κ vM nt);have F0:=F0.mod Hs (λ I=>nH _ I rfl);have nE:=nE.later nt;have nE:=nE.mod Hs (λ q I h=>by exfalso;(exact nI q h I));exact c' _ _ ⟨k+1,(T).set k ((⟨((T).getD k default).id,((T).getD k default).owner,((T).getD k default).kind,⟨((fL W.field ((T.getD k default).spot) ((l.getD ((ey l (T.getD k default).id).toNat) default).bp)).getD 1 default).x,((fL W.field ((T.getD k default).spot) ((l.getD ((ey l (T.getD k default).id).toNat) default).bp)).getD 1 default).y⟩,((T).getD k default).cY,((T).getD k default).load⟩:bg)),M++ [((T.getD k default).bp ((fL W.field (T.getD k default).spot (l.getD (ey l (T.getD k default).id).toNat default).bp).getD 1 default)).id],al4,aoY,Z,Z,Y5,aa,(by rw [azb (by omega)];exact F0),nE,aaJ,by omega,U9,by rw [aQS];exact U',by rw [aQU,aR9];omega,(λ q I Φ=>by (exact mU q I Φ)),(λ q I Φ=>by (exact q1 q I Φ)),(λ q I Φ=>by (exact aQ2 (UH q I) (λ agP=>by (exact tu q agP Φ)) (λ agP=>by omega))),(λ q I Φ=>by (exact aQ2 (UH q I) (λ agQ=>by (exact nH q agQ Φ)) (λ agQ=>by omega))),(λ q I Φ=>by (exact aQ2 (UH q I) (λ agR=>by (exact nI q agR Φ)) (λ agR=>by (have:=Ym q Φ;omega))))⟩ (by omega) (.cons Z (.cons Z (.cons Z (.cons Z (.cons Z (.cons Z (.cons (b2 Z (by first | omega | rfl | (simp<;>omega))) .nil)))))))
  ·refine dN<|dL<|ed<|dK<|aV<|aj<|vm Z<|va Z<|ai<|rt<|bb (.tmp Z .nil)<| ?_;have lu:k=W.ak.length:=by omega
   subst lu;have a_:(W.lJ l).2=M:=by show (jw _ _ _ _).2=M;rw [hS]
   have bh:(W.lJ l).1.ak=T:=by show (jw _ _ _ _).1=T;rw [hS]
   exact ⟨xR,Gj,by rw [a_];rfl,by rw [a_];exact fT,by rw [bh];exact e9,rR⟩
end
section
def aGk (W:ag) (p:bg→Bool) (w:World) (e:Ending) (w':World):Prop:=e= .returned (.tuple #[.int .i64 (aD1 W p), .bool (alq W p), .int .i64 W.bn])∧Below w.heap.size w w'
end
section
theorem bq.ayL {w aP:World} {aC:Nat} {a:ag.cc} {W:ag} {l:List bg} (h:bq w aC a W) (m:Mod (τ.ae a.T) w aP) (b4:bg.rep.aG 66 56 aP aC (τ.ae a.T) a.T a.t l):bq aP aC a {W with ak:=l}:=by
 have hn:=(aRA.1 h.apart).2.2;have d:∀ q∈τ.ae a.P++τ.ae a.B++τ.ae a.S++τ.ae a.M,q∉τ.ae a.T:=λ q I aD=>hn q I q aD rfl;exact ⟨h.P.mod m (λ q I=>d q (by simp [I])),h.B.mod m (λ q I=>d q (by simp [I])),h.S.mod m (λ q I=>d q (by simp [I])),h.M.mod m (λ q I=>d q (by simp [I])),b4,h.apart,h.nums⟩
theorem as0 {w:World} {aC:Nat} {a:ag.cc} {W:ag} (h:bq w aC a W):∀ q∈τ.ae a.P,q∉τ.ae a.T:=λ q I aD=>(aRA.1 h.apart).2.2 q (by simp [I]) q aD rfl
theorem ayP (w0:World) (a:ag.cc) (W:ag) (A:Option Addr) (c:Nat) (l:List dj) (w:World) (Ph:bq w w0.heap.size a W) (az:dj.rep.aI 24 w A c l) (G2:0<l.length→∀ q∈τ.ae A,q∉τ.ae a.T) (Cf:W.ak.length≤100000):
  Calls prog 98 #[.agg (ag.cells a W).toArray, .slice A l.length c] w (λ e w'=>∃ bH bV,e= .returned (.slice bH (W.lJ l).2.length bV)∧bK.aG 3 8 w' w.heap.size (τ.ae bH) bH bV (W.lJ l).2∧bq w' w0.heap.size a (W.lJ l).1∧Mod (τ.ae a.T) w w'):=by
 refine (aCb w0 a W A c l w Ph.P.has Ph.T (as0 Ph) az G2 Cf).mono ?_;rintro e w' ⟨bH,bV,rfl,γ,ab,aw⟩;exact ⟨bH,bV,Z,γ,Ph.ayL aw ab,aw⟩
theorem Ya (W:ag) (l:List dj):(W.lJ l).1.ak.length=W.ak.length:=(Q4 _).1
theorem aCc (a:ag.cc) (W:ag) (l:List dj):ag.cells a W=ag.cells a (W.lJ l).1:=by
 unfold ag.cells;rw [Ya];rfl
def rB (W:ag) (l:List dj):Int:=if W.bn≠0 then W.bn else if 200<l.length then 2 else 0
noncomputable def gV (W:ag) (l:List dj):ag:=if rB W l≠0 then ag.zero else (W.lJ l).1
noncomputable def oI (W:ag) (l:List dj):List Int:=if rB W l≠0 then [] else (W.lJ l).2
theorem aio {W:ag} {l:List dj} (h:¬ W.bn=0):rB W l=W.bn∧gV W l=ag.zero∧oI W l= []:=by
 have e:rB W l=W.bn:=by unfold rB;rw [aQZ h]
 unfold gV oI;rw [e,aQZ h,aQZ h];exact ⟨Z,Z,Z⟩
theorem aip {W:ag} {l:List dj} (h:W.bn=0) (az:(200:Int)<(l.length:Int)):rB W l=2∧gV W l=ag.zero∧oI W l= []:=by
 have e:rB W l=2:=by unfold rB;rw [aQV (by omega),aQZ (by omega)]
 unfold gV oI;rw [e];exact ⟨Z,Z,Z⟩
theorem Qr {W:ag} {l:List dj} (h:W.bn=0) (az:(l.length:Int)≤200):rB W l=0∧gV W l=(W.lJ l).1∧oI W l=(W.lJ l).2:=by
 have e:rB W l=0:=by unfold rB;rw [aQV (by omega),aQV (by omega)]
 unfold gV oI;rw [e];exact ⟨Z,Z,Z⟩
noncomputable def ajz (g:dj):Nat→ag→Nat
 | 0,_=>0
 | n+1,W=>if (W.lJ [g]).2.length=0 then 0 else ajz g n (W.lJ [g]).1+1
noncomputable def ajA (g:dj):Nat→ag→ag
 | 0,W=>W
 | n+1,W=>if (W.lJ [g]).2.length=0 then (W.lJ [g]).1 else ajA g n (W.lJ [g]).1
def ajy (W:ag) (id n:Int):Int:=if W.bn≠0 then W.bn else if n<0∨200<n then 1 else if alq W (gT id)=false then 7 else 0
noncomputable def aOr (W:ag) (id:Int) (bp:ax) (n:Int):ag:=if ajy W id n≠0 then ag.zero else ajA ⟨id,⟨bp.x,bp.y⟩⟩ n.toNat W
noncomputable def aOq (W:ag) (id:Int) (bp:ax) (n:Int):Nat:=if ajy W id n≠0 then 0 else ajz ⟨id,⟨bp.x,bp.y⟩⟩ n.toNat W
theorem ayM (a:ag.cc) (W:ag) (w:World) (bP:ag.Has w a W):
  Calls prog 97 #[.agg ((ag.cells a W).toArray)] w (λ e w'=>∃ a':ag.cc,e= .returned (.agg (ag.cells a' W).toArray)∧bq w' w.heap.size a' W∧Ext w w'):=by
 refine cd (n:=26) func97 Z Z Z ?_;refine aj<|cB Z Z Z Z λ cO bJ ba eb aa=> ?_;have:=ba.size;have bk:=κ (Ext.bI w) ba;have eh:=aa.lt;refine al Z mh Z Z λ eA cC bm hT ah=> ?_;have:=bm.size;have bO:=κ bk bm;have hI:=ah.lt;refine ai<|aj<|J (au qc Z)<|J (au wJ Z)<| ?_;have aa:=aa.later bm;refine J (ao Z (aa.one fK Z))<|ca zY Z Z ((uW _ _ W.field.aW _ (bP.P.keep bO)).mono ?_);rintro e uk ⟨l4,mf,rfl,e4,avH,gY⟩;refine ⟨_,Z, ?_⟩;have:=gY.size;have hY:=κ bO gY;have mE:=λ q I=>(e4.lt q I).2;have mr:=λ q I=>(e4.lt q I).1;refine J (au qc Z)<|J (au wJ Z)<| ?_;have aa:=aa.later gY;refine st (new:= [.int .i64 W.field.wide, .int .i64 W.field.high, .slice l4 ((W.field.aW).length) mf, .slice a.B W.aU.length a.b, .slice a.S W.bj.length a.s, .slice a.M W.br.length a.m, .slice a.T W.ak.length a.t, .int .i64 W.next, .int .i64 W.now]) Z Z aa Z wK Z Z Z λ xx my aa=> ?_;have:=my.size;have jC:=Ext.mod hY my bw;refine ai<|aB<| ?_;refine rd [(1,0),(2,2),(4,0),(5,2),(7,3),(9,3)] [0,1,3,4,2,6,5,7,8,9] (by kernel_rfl) (by kernel_rfl) ?_;refine aq Z (λ _=>au qd Z)<|bE Z (λ _ x=>ao Z ((aa.later x).one tA Z))<|aq Z (λ _=>au tB Z)<|bE Z (λ _ x=>ao Z ((aa.later x).one fK Z))<|fG Z Z Z λ qv cp Q hK=>ca Ud Z Z ((Ol _ _ W.aU _ (bP.B.keep (κ jC cp))).mono ?_);rintro e AS ⟨sV,tl,rfl,fC,avI,jn⟩;refine ⟨_,Z,hK _ _ ⟨κ cp jn, ?_⟩⟩;have:=cp.size;have ht:=κ jC cp;have:=jn.size;have oS:=κ ht jn;have y5:=λ q I=>(fC.lt q I).2;have tP:=λ q I=>(fC.lt q I).1;refine aq Z (λ _=>au qd Z)<|fG Z Z Z λ Fj jo Q hK=>ca zY Z Z ((uW _ _ W.bj _ (bP.S.keep (κ oS jo))).mono ?_);rintro e vH ⟨vV,wB,rfl,fD,avJ,eT⟩;refine ⟨_,Z,hK _ _ ⟨κ jo eT, ?_⟩⟩;have:=jo.size;have qC:=κ oS jo;have:=eT.size;have lQ:=κ qC eT;have CS:=λ q I=>(fD.lt q I).2;have rv:=λ q I=>(fD.lt q I).1;have aa:=aa.later (κ cp (κ jn (κ jo eT)));refine eo Z Z Z λ xz eU Q hK=>st (new:= [.int .i64 W.field.wide, .int .i64 W.field.high, .slice l4 ((W.field.aW).length) mf, .slice sV ((W.aU).length) tl, .slice a.S W.bj.length a.s, .slice a.M W.br.length a.m, .slice a.T W.ak.length a.t, .int .i64 W.next, .int .i64 W.now]) Z Z (aa.later eU) Z Ue Z Z Z λ H_ hg aa=>hK _ _ ?_;have:=eU.size;have jD:=κ lQ eU;have:=hg.size;have uD:=Ext.mod jD hg bw;refine aq Z (λ _=>au tB Z)<|eo Z Z Z λ y_ ee Q hK=>st (new:= [.int .i64 W.field.wide, .int .i64 W.field.high, .slice l4 ((W.field.aW).length) mf, .slice sV ((W.aU).length) tl, .slice vV ((W.bj).length) wB, .slice a.M W.br.length a.m, .slice a.T W.ak.length a.t, .int .i64 W.next, .int .i64 W.now]) Z Z (aa.later ee) Z wK Z Z Z λ C1 fW aa=>hK _ _ ?_;have:=ee.size;have kG:=κ uD ee;have:=fW.size;have mJ:=Ext.mod kG fW bw;refine fn λ pW dM=> ?_;have:=dM.size;have hy:=κ mJ dM;refine aV<|aB<| ?_;refine rd [(1,0),(2,2),(4,0),(5,2),(7,3),(9,3)] [0,1,3,4,2,6,5,7,8,9] (by kernel_rfl) (by kernel_rfl) ?_;refine aq Z (λ _=>au yn Z)<| ?_;have aa:=aa.later dM;refine bE Z (λ _ x=>ao Z ((aa.later x).one fK Z))<|aq Z (λ _=>au jL Z)<|bE Z (λ _ x=>ao Z ((aa.later x).one lr Z))<|fG Z Z Z λ Mv hX Q hK=>ca zY Z Z ((uW _ _ W.br _ (bP.M.keep (κ hy hX))).mono ?_);rintro e Ib ⟨zf,p',rfl,iD,avK,iA⟩;refine ⟨_,Z,hK _ _ ⟨κ hX iA, ?_⟩⟩;have:=hX.size;have xK:=κ hy hX;have:=iA.size;have p2:=κ xK iA;have Rj:=λ q I=>(iD.lt q I).2;have sm:=λ q I=>(iD.lt q I).1;refine aq Z (λ _=>au yn Z)<|fG Z Z Z λ Yy hq Q hK=>ca Uf Z Z ((Om _ _ W.ak _ (bP.T.keep (κ p2 hq))).mono ?_);rintro e Ic ⟨Dk,BB,rfl,iE,avL,gx⟩;refine ⟨_,Z,hK _ _ ⟨κ hq gx, ?_⟩⟩;have:=hq.size;have FH:=κ p2 hq;have:=gx.size;have rU:=κ FH gx;have sF:=λ q I=>(iE.lt q I).2;have ry:=λ q I=>(iE.lt q I).1;have aa:=aa.later (κ hX (κ iA (κ hq gx)));refine eo Z Z Z λ YC n6 Q hK=>st (new:= [.int .i64 W.field.wide, .int .i64 W.field.high, .slice l4 ((W.field.aW).length) mf, .slice sV ((W.aU).length) tl, .slice vV ((W.bj).length) wB, .slice zf ((W.br).length) p', .slice a.T W.ak.length a.t, .int .i64 W.next, .int .i64 W.now]) Z Z (aa.later n6) Z wK Z Z Z λ C2 gL aa=>hK _ _ ?_;have:=n6.size;have FK:=κ rU n6;have:=gL.size;have p3:=Ext.mod FK gL bw;refine aq Z (λ _=>au jL Z)<|eo Z Z Z λ Mz gD Q hK=>st (new:= [.int .i64 W.field.wide, .int .i64 W.field.high, .slice l4 ((W.field.aW).length) mf, .slice sV ((W.aU).length) tl, .slice vV ((W.bj).length) wB, .slice zf ((W.br).length) p', .slice Dk ((W.ak).length) BB, .int .i64 W.next, .int .i64 W.now]) Z Z (aa.later gD) Z JQ Z Z Z λ Ig pL aa=>hK _ _ ?_;have:=gD.size;have vS:=κ p3 gD;have:=pL.size;have kH:=Ext.mod vS pL bw;refine fn λ MA e8=> ?_;have:=e8.size;have xO:=κ kH e8;refine aV<|aj<| ?_;have aa:=aa.later e8;refine J (ao Z (aa.all c7 b3))<| ?_;have ah:=ah.later gY;have ah:=ah.mod my aR;have ah:=ah.later (κ cp (κ jn (κ jo (κ eT eU))));have ah:=ah.mod hg aR;have ah:=ah.later ee;have ah:=ah.mod fW aR;have ah:=ah.later (κ dM (κ hX (κ iA (κ hq (κ gx n6)))));have ah:=ah.mod gL aR;have ah:=ah.later gD;have ah:=ah.mod pL aR;have ah:=ah.later e8;refine st (new:= [.int .i64 W.field.wide, .int .i64 W.field.high, .slice l4 ((W.field.aW).length) mf, .slice sV ((W.aU).length) tl, .slice vV ((W.bj).length) wB, .slice zf ((W.br).length) p', .slice Dk ((W.ak).length) BB, .int .i64 W.next, .int .i64 W.now]) Z Z ah Z b3 Z Z Z λ YI mA ah=> ?_;have:=mA.size;have FO:=Ext.mod xO mA bw;refine ai<|rt<|bb (.cell Z (ah.all c7 b3) .nil)<| ?_;have e4:=e4.mod my (bz mr);have e4:=e4.later (κ cp (κ jn (κ jo (κ eT eU))));have e4:=e4.mod hg (bz mr);have e4:=e4.later ee;have e4:=e4.mod fW (bz mr);have e4:=e4.later (κ dM (κ hX (κ iA (κ hq (κ gx n6)))));have e4:=e4.mod gL (bz mr);have e4:=e4.later gD;have e4:=e4.mod pL (bz mr);have e4:=e4.later e8;have e4:=e4.mod mA (bz mr);have fC:=fC.later (κ jo (κ eT eU));have fC:=fC.mod hg (bz tP);have fC:=fC.later ee;have fC:=fC.mod fW (bz tP);have fC:=fC.later (κ dM (κ hX (κ iA (κ hq (κ gx n6)))));have fC:=fC.mod gL (bz tP);have fC:=fC.later gD;have fC:=fC.mod pL (bz tP);have fC:=fC.later e8;have fC:=fC.mod mA (bz tP);have fD:=fD.later eU;have fD:=fD.mod hg (bz rv);have fD:=fD.later ee;have fD:=fD.mod fW (bz rv);have fD:=fD.later (κ dM (κ hX (κ iA (κ hq (κ gx n6)))));have fD:=fD.mod gL (bz rv);have fD:=fD.later gD;have fD:=fD.mod pL (bz rv);have fD:=fD.later e8;have fD:=fD.mod mA (bz rv);have iD:=iD.later (κ hq (κ gx n6));have iD:=iD.mod gL (bz sm);have iD:=iD.later gD;have iD:=iD.mod pL (bz sm);have iD:=iD.later e8;have iD:=iD.mod mA (bz sm);have iE:=iE.later n6;have iE:=iE.mod gL (bz ry);have iE:=iE.later gD;have iE:=iE.mod pL (bz ry);have iE:=iE.later e8;have iE:=iE.mod mA (bz ry);have hR:=bq.Xe (aC:=w.heap.size) (e4.down (by omega)) (fC.down (by omega)) (fD.down (by omega)) (iD.down (by omega)) (iE.down (by omega)) (λ q γ ab=>by exfalso;(have:=tP q γ;(have:=mE q ab;omega))) (λ q γ ab=>by exfalso;(have:=rv q γ;(have:=mE q ab;omega))) (λ q γ ab=>by exfalso;(have:=rv q γ;(have:=y5 q ab;omega))) (λ q γ ab=>by exfalso;(have:=sm q γ;(have:=mE q ab;omega))) (λ q γ ab=>by exfalso;(have:=sm q γ;(have:=y5 q ab;omega))) (λ q γ ab=>by exfalso;(have:=sm q γ;(have:=CS q ab;omega))) (λ q γ ab=>by exfalso;(have:=ry q γ;(have:=mE q ab;omega))) (λ q γ ab=>by exfalso;(have:=ry q γ;(have:=y5 q ab;omega))) (λ q γ ab=>by exfalso;(have:=ry q γ;(have:=CS q ab;omega))) (λ q γ ab=>by exfalso;(have:=ry q γ;(have:=Rj q ab;omega))) bP.nums;exact ⟨⟨l4,sV,vV,zf,Dk,mf,tl,wB,p',BB⟩,Z,hR,FO⟩
theorem ayO (a:ag.cc) (W:ag) (A:Option Addr) (c:Nat) (l:List dj) (w:World) (bP:ag.Has w a W) (az:dj.rep.aI 24 w A c l):
  Calls prog 62 #[.agg ((ag.cells a W).toArray), .slice A l.length c] w (λ e w'=>∃ a' bH bV,e= .returned (.tuple #[.agg (ag.cells a' (gV W l)).toArray, .slice bH (oI W l).length bV, .int .i64 (rB W l)])∧bq w' w.heap.size a' (gV W l)∧bK.aG 3 8 w' w.heap.size (τ.ae bH) bH bV (oI W l)∧(∀ q∈τ.ae bH,q∉bq.b_ a')∧Ext w w'):=by
 refine cd (n:=26) func62 Z Z Z ?_;refine aj<|cB Z Z Z Z λ cO bJ ba eb aa=> ?_;have:=ba.size;have bk:=κ (Ext.bI w) ba;have eh:=aa.lt;refine al Z mh Z Z λ eA cC bm hT ah=> ?_;have:=bm.size;have bO:=κ bk bm;have hI:=ah.lt;refine va Z<|va Z<|ai<|aB<|aj<| ?_;have aa:=aa.later bm;refine J (ao Z (aa.all c7 b3))<|ca Gw Z Z ((BD a W _ (bP.keep bO)).mono ?_);rintro e hj ⟨rfl,eS⟩;refine ⟨_,Z, ?_⟩;have:=eS.size;have cV:=κ bO eS;refine va Z<|ai<|aj<|vm Z<|J (bne Z Z)<|ai<| ?_;refine eH Z (λ lv=> ?_) (λ lv=> ?_)
 ·refine aj<|J (v:= .agg #[.int .i64 0, .int .i64 0, .slice none 0 0, .slice none 0 0, .slice none 0 0, .slice none 0 0, .slice none 0 0, .int .i64 0, .int .i64 0]) (cG Z (by kernel_rfl))<|vm Z<| ?_;have ah:=ah.later eS;refine st (new:= [.int .i64 0, .int .i64 0, .slice none 0 0, .slice none 0 0, .slice none 0 0, .slice none 0 0, .slice none 0 0, .int .i64 0, .int .i64 0]) Z Z ah Z b3 Z Z Z λ H9 pJ ah=> ?_;have:=pJ.size;have uA:=Ext.mod cV pJ bw;refine va Z<|va Z<|ai<|rt<|bN<|bb (.cell Z (ah.all c7 b3) (.tmp Z (.tmp Z .nil)))<| ?_;obtain ⟨a_,bh,cD⟩:=aio (l:=l) lv;exact ⟨⟨none,none,none,none,none,0,0,0,0,0⟩,none,0,by rw [a_,bh,cD];rfl,by rw [bh];exact bq.zero _ _,by rw [cD];exact τ.aG.nil _,λ q I=>by simp [τ.ae] at I,uA⟩
 ·have bC:=Good.vy lv;have Cf:=bC.eg;refine bs<|aB<|aj<|vm Z<|J (cu underlying124 Z)<|J (iu Z Z)<|ai<| ?_;refine ef Z (λ tE=> ?_) (λ tE=> ?_)
  ·refine aj<|J (v:= .agg #[.int .i64 0, .int .i64 0, .slice none 0 0, .slice none 0 0, .slice none 0 0, .slice none 0 0, .slice none 0 0, .int .i64 0, .int .i64 0]) (cG Z (by kernel_rfl))<| ?_;have ah:=ah.later eS;refine st (new:= [.int .i64 0, .int .i64 0, .slice none 0 0, .slice none 0 0, .slice none 0 0, .slice none 0 0, .slice none 0 0, .int .i64 0, .int .i64 0]) Z Z ah Z b3 Z Z Z λ sH xb ah=> ?_;have:=xb.size;have jY:=Ext.mod cV xb bw;refine va Z<|va Z<|ai<|rt<|bN<|bb (.cell Z (ah.all c7 b3) (.tmp Z (.tmp Z .nil)))<| ?_;obtain ⟨a_,bh,cD⟩:=aip (l:=l) lv (by omega);exact ⟨⟨none,none,none,none,none,0,0,0,0,0⟩,none,0,by rw [a_,bh,cD];rfl,by rw [bh];exact bq.zero _ _,by rw [cD];exact τ.aG.nil _,λ q I=>by simp [τ.ae] at I,jY⟩
  ·refine bs<|aj<| ?_;have aa:=aa.later eS;refine J (ao Z (aa.all c7 b3))<|ca aqW Z Z ((ayM a W _ (bP.keep cV)).mono ?_);rintro e um ⟨a28,rfl,IX,c_⟩;refine ⟨_,Z, ?_⟩;have:=c_.size;have iT:=κ cV c_;have Rg:=λ q I=>(IX.lt q I).2;have Hk:=λ q I=>(IX.lt q I).1;have aa:=aa.later c_;refine st Z Z aa Z b3 Z Z Z λ Fj jT aa=> ?_;have:=jT.size;have qC:=Ext.mod iT jT bw;refine ai<|aj<|J (ao Z (aa.all c7 b3))<|vm Z<| ?_;have IX:=IX.mod jT (bz Hk);refine ca aqX Z Z ((ayP _ a28 W _ _ l _ IX (az.keep qC) (λ aF q I Φ=>by have γ:=az.ayl (by decide) aF q I;have ab:=Hk q (q6 Φ);omega) (by omega)).mono ?_);rintro e Ms ⟨alS,aoH,rfl,I8,Nw,AA⟩;refine ⟨_,Z, ?_⟩;have:=AA.size;have xI:=Ext.mod qC AA (λ q I=>by have bf:=Hk q (q6 I);omega);rw [aCc a28 W l] at aa;have aCV:=λ q I=>(I8.lt q I).2;have WO:=λ q I=>(I8.lt q I).1;have aCU:=λ q I=>(Nw.lt q I).2;have aJx:=Ya W l;refine va Z<|ai<|aj<| ?_;have yh:∀ q∈τ.ae a28.T,q=bJ→False:=λ q I Φ=>by (have:=Hk q (q6 I);omega)
   have aa:=aa.mod AA (λ I=>yh _ I rfl);refine J (ao Z (aa.all c7 b3))<|vm Z<| ?_;have ah:=ah.later (κ eS c_);have ah:=ah.mod jT aR;have yi:∀ q∈τ.ae a28.T,q=cC→False:=λ q I Φ=>by (have:=Hk q (q6 I);omega)
   have ah:=ah.mod AA (λ I=>yi _ I rfl);refine st Z Z ah Z b3 Z Z Z λ Ry j' ah=> ?_;have:=j'.size;have uE:=Ext.mod xI j' bw;refine va Z<|va Z<|ai<|rt<|bb (.cell Z (ah.all c7 b3) (.tmp Z (.tmp Z .nil)))<| ?_;have Nw:=Nw.mod j' (bz Hk);have I8:=I8.mod j' (bz WO);obtain ⟨a_,bh,cD⟩:=Qr (l:=l) lv (by omega);exact ⟨a28,alS,aoH,by rw [a_,bh,cD];rfl,by rw [bh];exact Nw.down (by omega),by rw [cD];exact I8.down (by omega),λ q I hf=>by (have:=WO q I;(have:=Rg q hf;omega)),uE⟩
end
section
structure ch where
 kind:Int
 aS:Int
 spot:ax
 what:Int
 deriving DecidableEq,Inhabited
namespace ch
def cells (a:ch):List Value:= [.int .i64 (a.kind), .int .i64 (a.aS), .int .i64 (a.spot.x), .int .i64 (a.spot.y), .int .i64 (a.what)]
def ok (a:ch):Prop:=(Lit.int .i64 a.kind).wf=true∧(Lit.int .i64 a.aS).wf=true∧(Lit.int .i64 a.spot.x).wf=true∧(Lit.int .i64 a.spot.y).wf=true∧(Lit.int .i64 a.what).wf=true
def raw (j:Nat) (u:Value):Prop:=match j with
 | 0=>∃ n:Int,u= .int .i64 n
 | 1=>∃ n:Int,u= .int .i64 n
 | 2=>∃ n:Int,u= .int .i64 n
 | 3=>∃ n:Int,u= .int .i64 n
 | 4=>∃ n:Int,u= .int .i64 n
 | _=>True
theorem qZ (a:ch):∀ (j:Nat) u,a.cells[j]? =some u→raw j u:=by
 intro j u hu
 match j,hu with
 | 0,hu=>exact ⟨_,(aQL hu).symm⟩
 | 1,hu=>exact ⟨_,(aQL hu).symm⟩
 | 2,hu=>exact ⟨_,(aQL hu).symm⟩
 | 3,hu=>exact ⟨_,(aQL hu).symm⟩
 | 4,hu=>exact ⟨_,(aQL hu).symm⟩
 | j+5,hu=>exact trivial
theorem qY (a:ch):∀ u∈a.cells,u.oneCell'=true:=by
 intro u hu;unfold cells at hu;simp only [aQ7,aSb,aSV] at hu;rcases hu with rfl | rfl | rfl | rfl | rfl<;>rfl
def rep:τ ch:=τ.flat 5 cells ok raw (λ _=>rfl) qY qZ
def zero:Value:= .agg #[.int .i64 0, .int .i64 0, .int .i64 0, .int .i64 0, .int .i64 0]
theorem iC:∀ (j:Nat) u,zero.cells[j]? =some u→rep.raw j u:=by
 intro j u hu;have hu:(#[(.int .i64 0:Value),(.int .i64 0:Value),(.int .i64 0:Value),(.int .i64 0:Value),(.int .i64 0:Value)]:Array Value)[j]? =some u:=hu
 match j,hu with
 | 0,hu=>exact ⟨_,(aQL hu).symm⟩
 | 1,hu=>exact ⟨_,(aQL hu).symm⟩
 | 2,hu=>exact ⟨_,(aQL hu).symm⟩
 | 3,hu=>exact ⟨_,(aQL hu).symm⟩
 | 4,hu=>exact ⟨_,(aQL hu).symm⟩
 | j+5,hu=>cases hu
theorem info:(prog.info? 178).map (λ i=>(i.zero,i.size,i.bytes))=some (some zero,5,40):=by kernel_rfl
def sh:gi:=(.cons (.int .i64) (.cons (.int .i64) (.cons (.cons (.int .i64) (.cons (.int .i64) .nil)) (.cons (.int .i64) .nil))))
end ch
theorem auA {w:World} {cs:List Value} {a:ch} (h:ch.rep.has w cs a):cs=a.cells:=aSO (show cs=a.cells∧a.ok from h)
end
section
def beside (a b:ax):Bool:=cL b.x (a.x - 1) (a.x+1) && cL b.y (a.y - 1) (a.y+1)
namespace ag
def place (W:ag) (c:ax):Nat:=(c.y * W.field.wide+c.x).toNat
def pb (t:bg) (n:Int):bg:= {t with load:=t.load+n}
def ng (W:ag) (d:ch):Option ag :=
 match W.ak.findIdx? (gT d.aS) with
 | none=>none
 | some k =>
  let t:=W.ak.getD k default
  let m:=W.br.getD (W.place d.spot) 0
  if t.kind == 1 && decide (t.load<5) && beside t.spot d.spot && W.field.fe d.spot && m != 0 then
   some {W with br:=W.br.set (W.place d.spot) (m - 1),ak:=W.ak.set k (pb t 1)}
  else none
def drop (W:ag) (d:ch):Option ag :=
 match W.ak.findIdx? (gT d.aS) with
 | none=>none
 | some k =>
  let t:=W.ak.getD k default
  let o:=t.owner.toNat
  let s:=W.bj.getD o 0
  let n:=min t.load (1000000 - s)
  if t.load != 0 && beside (W.aU.getD o default) t.spot && decide (0<n) then
   some {W with bj:=W.bj.set o (s+n),ak:=W.ak.set k (pb t (-n))}
  else none
def around (c:ax):List ax :=
 [c,⟨c.x - 1,c.y - 1⟩,⟨c.x,c.y - 1⟩,⟨c.x+1,c.y - 1⟩,⟨c.x - 1,c.y⟩,⟨c.x,c.y⟩,⟨c.x+1,c.y⟩,⟨c.x - 1,c.y+1⟩,⟨c.x,c.y+1⟩,⟨c.x+1,c.y+1⟩]
def CC (W:ag) (c:ax):Bool:=W.field.ground c && !W.ak.any (ql c)
def free (W:ag) (c:ax):Option ax:=(around c).find? W.CC
def rj (W:ag) (d:ch):Option ag :=
 let s:=W.bj.getD d.aS.toNat 0
 if cL d.aS 0 ((W.aU.length:Int) - 1) && cL d.what 1 2 && decide (kA d.what≤s) && decide (W.ak.length<100) && decide (W.next<1000000) then
  match W.free (W.aU.getD d.aS.toNat default) with
  | none=>none
  | some c=>some {W with ak:=W.ak++ [⟨W.next,d.aS,d.what,c,ju d.what,0⟩],next:=W.next+1,bj:=W.bj.set d.aS.toNat (s - kA d.what)}
 else none
def jJ (W:ag) (d:ch):Option ag:=if d.kind=1 then W.ng d else if d.kind=2 then W.drop d else if d.kind=3 then W.rj d else none
def gH (W:ag):List ch→ag×List Bool
 | []=>(W, [])
 | d::l=>match W.jJ d with
  | some V=>((V.gH l).1,true::(V.gH l).2)
  | none=>((W.gH l).1,false::(W.gH l).2)
end ag
theorem GC {l:List bg} {id:Int} {k:Nat} (h:l.findIdx? (gT id)=some k):∃ t,l[k]? =some t∧t.id=id∧l.getD k default=t:=by
 obtain ⟨γ,ab,_⟩:=aTh.1 h;exact ⟨l[k],aQN γ,by simpa [gT] using ab,by rw [aQK,aQN γ];rfl⟩
theorem aBR {W V:ag} {k:Nat} {t u:bg} (kQ:V.ak=W.ak.set k u) (aD:W.ak[k]? =some t) (hs:u.spot=t.spot) (i:Nat):V.iO i=W.iO i:=by
 unfold ag.iO;rw [kQ,List.take_set,aRY];by_cases pB:k<i
 ·have γ:((W.ak.take i).map (·.spot))[k]? =some t.spot:=by rw [aQ4,aRq,aQZ pB,aD];rfl
  obtain ⟨ab,aw⟩:=aQM.1 γ;rw [hs,← aw];exact aSy _
 ·rw [List.set_eq_of_length_le (by rw [aRz,aQP];omega)]
theorem axI {W V:ag} {k:Nat} {t u:bg} (kQ:V.ak=W.ak.set k u) (aD:W.ak[k]? =some t) (hs:u.id=t.id) (i:Nat):V.jt i=W.jt i:=by
 unfold ag.jt;by_cases ar:i=0
 ·rw [aQZ ar,aQZ ar]
 ·rw [aQV ar,aQV ar,kQ,aQK,aQK];by_cases av:k=i - 1
  ·subst av;rw [aQ9 (aQM.1 aD).1,aD];exact hs
  ·rw [aRf av]
theorem S5 {W V:ag} {k:Nat} {t u:bg} (kQ:V.ak=W.ak.set k u) (aD:W.ak[k]? =some t) {i:Nat} {x:bg} (hx:V.ak[i]? =some x):(i=k∧x=u)∨(i≠k∧W.ak[i]? =some x):=by
 rw [kQ] at hx;by_cases av:k=i
 ·subst av;rw [aQ9 (aQM.1 aD).1] at hx;exact .inl ⟨Z,(aQL hx).symm⟩
 ·rw [aRf av] at hx;exact .inr ⟨aTx av,hx⟩
theorem Good.turned {W V:ag} (h:Good W) {k:Nat} {t:bg} {n:Int} (aD:W.ak[k]? =some t) (kQ:V.ak=W.ak.set k (ag.pb t n)) (az:0≤t.load+n∧t.load+n≤ag.AG t.kind)
  (hf:V.field=W.field) (Φ:V.aU=W.aU) (hn:V.next=W.next) (hw:V.now=W.now)
  (sg:V.bj.length=W.bj.length) (hs:∀ (i:Nat) s,V.bj[i]? =some s→0≤s∧s≤1000000)
  (Ew:V.br.length=W.br.length) (hm:∀ (i:Nat) m,V.br[i]? =some m→0≤m∧m≤1000000∧(m≤0∨W.field.aW.getD i 0=3)):Good V:=by
 have γ:=h.ak k t aD;have hlen:V.ak.length=W.ak.length:=by rw [kQ,aQS]
 refine ⟨by rw [hf];exact h.field,by rw [Φ];exact h.jU,by rw [hlen];exact h.eg,by rw [sg,Φ];exact h.sl, ?_,hs,by rw [Ew,hf];exact h.xd,by rw [hf];exact hm,λ i x hx=> ?_,λ i x hx=> ?_,λ i x hx=> ?_,by rw [hn];exact h.next,by rw [hw];exact h.now⟩
 ·rw [Φ,hf];exact h.aU
 ·rw [hf,Φ];rcases S5 kQ aD hx with ⟨rfl,rfl⟩ | ⟨_,hx⟩
  ·exact ⟨γ.kind,γ.owner,γ.ground,γ.cY,az⟩
  ·exact h.ak i x hx
 ·rw [axI kQ aD rfl,hn];rcases S5 kQ aD hx with ⟨rfl,rfl⟩ | ⟨_,hx⟩
  ·exact h.ids i t aD
  ·exact h.ids i x hx
 ·rw [aBR kQ aD rfl];rcases S5 kQ aD hx with ⟨rfl,rfl⟩ | ⟨_,hx⟩
  ·exact h.iO i t aD
  ·exact h.iO i x hx
theorem aiv {W V:ag} {d:ch} (h:W.ng d=some V):∃ (k:Nat) (t:bg),W.ak.findIdx? (gT d.aS)=some k∧W.ak[k]? =some t∧t.id=d.aS∧t.kind=1∧t.load<5∧beside t.spot d.spot=true∧W.field.fe d.spot=true∧W.br.getD (W.place d.spot) 0≠0∧
  V= {W with br:=W.br.set (W.place d.spot) (W.br.getD (W.place d.spot) 0 - 1),ak:=W.ak.set k (ag.pb t 1)}:=by
 unfold ag.ng at h;cases hf:W.ak.findIdx? (gT d.aS) with
 | none=>rw [hf] at h;cases h
 | some k =>
  rw [hf] at h;obtain ⟨t,aD,hid,aM⟩:=GC hf;simp only [aM] at h;split at h
  ·rename_i hc
   simp only [aQT,aRg,aTT,aRK] at hc;exact ⟨k,t,Z,aD,hid,hc.1.1.1.1,hc.1.1.1.2,hc.1.1.2,hc.1.2,hc.2,(aQL h).symm⟩
  ·cases h
theorem ac9 {W V:ag} {d:ch} (h:W.drop d=some V):∃ (k:Nat) (t:bg) (n:Int),W.ak.findIdx? (gT d.aS)=some k∧W.ak[k]? =some t∧t.id=d.aS∧t.load≠0∧beside (W.aU.getD t.owner.toNat default) t.spot=true∧n=min t.load (1000000 - W.bj.getD t.owner.toNat 0)∧0<n∧
  V= {W with bj:=W.bj.set t.owner.toNat (W.bj.getD t.owner.toNat 0+n),ak:=W.ak.set k (ag.pb t (-n))}:=by
 unfold ag.drop at h;cases hf:W.ak.findIdx? (gT d.aS) with
 | none=>rw [hf] at h;cases h
 | some k =>
  rw [hf] at h;obtain ⟨t,aD,hid,aM⟩:=GC hf;simp only [aM] at h;split at h
  ·rename_i hc
   simp only [aQT,aRg,aTT] at hc;exact ⟨k,t,_,Z,aD,hid,hc.1.1,hc.1.2,Z,hc.2,(aQL h).symm⟩
  ·cases h
theorem aft {W V:ag} {d:ch} (h:W.rj d=some V):∃ c:ax,W.free (W.aU.getD d.aS.toNat default)=some c∧0≤d.aS∧d.aS<(W.aU.length:Int)∧(d.what=1∨d.what=2)∧ag.kA d.what≤W.bj.getD d.aS.toNat 0∧W.ak.length<100∧W.next<1000000∧
  V= {W with ak:=W.ak++ [⟨W.next,d.aS,d.what,c,ag.ju d.what,0⟩],next:=W.next+1,bj:=W.bj.set d.aS.toNat (W.bj.getD d.aS.toNat 0 - ag.kA d.what)}:=by
 unfold ag.rj at h;simp only at h;split at h
 ·rename_i hc
  simp only [aQT,aRg] at hc;have a:=kv hc.1.1.1.1;have b:=kv hc.1.1.1.2;split at h
  ·cases h
  ·rename_i c ml
   exact ⟨c,ml,a.1,by omega,by omega,hc.1.1.2,hc.1.2,hc.2,(aQL h).symm⟩
 ·cases h
theorem az6 (k:Int):0≤ag.kA k:=by unfold ag.kA;split<;>(try split)<;>omega
theorem Good.ng {W V:ag} {d:ch} (h:Good W) (hd:W.ng d=some V):Good V:=by
 obtain ⟨k,t,_,aD,_,av,az,_,dn,Cb,rfl⟩:=aiv hd;have γ:=h.ak k t aD;have V1:ag.AG t.kind=5:=by rw [av];rfl
 obtain ⟨i1,i2,_⟩:=aE.idx h.field dn;have bA:W.place d.spot<W.br.length:=by rw [h.xd];unfold ag.place;omega
 obtain ⟨m,hm⟩:=hG bA;have ab:=h.br _ m hm;have aM:W.br.getD (W.place d.spot) 0=m:=by rw [aQK,hm];rfl
 rw [aM] at Cb ⊢;refine h.turned aD Z (by have:=γ.load;omega) Z Z Z Z Z h.bj (by simp) λ i x hx=> ?_;simp only at hx;by_cases ar:W.place d.spot=i
 ·subst ar;rw [aQ9 bA] at hx;obtain rfl:=aQL hx;refine ⟨by omega,by omega, ?_⟩;rcases ab.2.2 with aw | aw
  ·omega
  ·exact .inr aw
 ·rw [aRf ar] at hx;exact h.br i x hx
theorem Good.drop {W V:ag} {d:ch} (h:Good W) (hd:W.drop d=some V):Good V:=by
 obtain ⟨k,t,n,_,aD,_,az,_,hn,PM,rfl⟩:=ac9 hd;have γ:=h.ak k t aD;have bA:t.owner.toNat<W.bj.length:=by rw [h.sl];have:=γ.owner;omega
 obtain ⟨s,hs⟩:=hG bA;have ab:=h.bj _ s hs;have aM:W.bj.getD t.owner.toNat 0=s:=by rw [aQK,hs];rfl
 rw [aM] at hn ⊢;refine h.turned aD Z (by have:=γ.load;omega) Z Z Z Z (by simp) (λ i x hx=> ?_) Z h.br;simp only at hx;by_cases ar:t.owner.toNat=i
 ·subst ar;rw [aQ9 bA] at hx;obtain rfl:=aQL hx;omega
 ·rw [aRf ar] at hx;exact h.bj i x hx
theorem Good.rj {W V:ag} {d:ch} (h:Good W) (hd:W.rj d=some V):Good V:=by
 obtain ⟨c,ml,Wj,mo,av,hp,Cf,tJ,rfl⟩:=aft hd;have vn:=aT2 ml;unfold ag.CC at vn;rw [aQT] at vn;have po:∀ t∈W.ak,t.spot≠c:=λ t aD he=>by
  have:=vn.2;rw [aR4,aUJ] at this;exact this t aD (by simp [ql,he])
 have bA:d.aS.toNat<W.bj.length:=by rw [h.sl];omega
 obtain ⟨s,hs⟩:=hG bA;have ab:=h.bj _ s hs;have aM:W.bj.getD d.aS.toNat 0=s:=by rw [aQK,hs];rfl
 rw [aM] at hp ⊢;have PT:=az6 d.what;have hn:=h.next;have agf:∀ i,i≤W.ak.length→ag.iO {W with ak:=W.ak++ [⟨W.next,d.aS,d.what,c,ag.ju d.what,0⟩],next:=W.next+1,bj:=W.bj.set d.aS.toNat (s - ag.kA d.what)} i=W.iO i:=λ i ar=>by
  unfold ag.iO;simp only;rw [aUY ar]
 have PF:∀ i,i≤W.ak.length→ag.jt {W with ak:=W.ak++ [⟨W.next,d.aS,d.what,c,ag.ju d.what,0⟩],next:=W.next+1,bj:=W.bj.set d.aS.toNat (s - ag.kA d.what)} i=W.jt i:=λ i ar=>by
  unfold ag.jt;simp only;by_cases aF:i=0
  ·rw [aQZ aF,aQZ aF]
  ·rw [aQV aF,aQV aF,aQK,aQK,aQ5 (by omega)]
 have fq:∀ (i:Nat) x,(W.ak++ [(⟨W.next,d.aS,d.what,c,ag.ju d.what,0⟩:bg)])[i]? =some x→(i<W.ak.length∧W.ak[i]? =some x)∨(i=W.ak.length∧x=⟨W.next,d.aS,d.what,c,ag.ju d.what,0⟩):=λ i x hx=>by
  by_cases ar:i<W.ak.length
  ·rw [aQ5 ar] at hx;exact .inl ⟨ar,hx⟩
  ·rw [aQ8 (by omega)] at hx;have aF:i - W.ak.length=0:=by
    have:=(aQM.1 hx).1;simp at this;omega
   rw [aF] at hx;exact .inr ⟨by omega,by simpa using hx.symm⟩
 have aJt:W.jt W.ak.length<W.next∧0≤W.jt W.ak.length:=by
  by_cases aF:W.ak.length=0
  ·rw [aF];exact ⟨by show (0:Int)<_;omega,aSe _⟩
  ·obtain ⟨t,aD⟩:=hG (l:=W.ak) (i:=W.ak.length - 1) (by omega);have aX:=h.ids _ t aD;have e:W.jt W.ak.length=t.id:=by
    unfold ag.jt;rw [aQV aF,aQK,aD];rfl
   rw [e];omega
 refine ⟨h.field,h.jU,by simp;omega,by simp;exact h.sl,h.aU,λ i x hx=> ?_,h.xd,h.br,λ i x hx=> ?_,λ i x hx=> ?_,λ i x hx=> ?_,by simp only;omega,h.now⟩
 ·simp only at hx;by_cases ar:d.aS.toNat=i
  ·subst ar;rw [aQ9 bA] at hx;obtain rfl:=aQL hx;omega
  ·rw [aRf ar] at hx;exact h.bj i x hx
 ·rcases fq i x hx with ⟨_,hx⟩ | ⟨_,rfl⟩
  ·exact h.ak i x hx
  ·exact ⟨av,⟨Wj,mo⟩,vn.1,by simp only;rcases av with h | h<;>rw [h]<;>decide,by simp only;rcases av with h | h<;>rw [h]<;>decide⟩
 ·rcases fq i x hx with ⟨ar,hx⟩ | ⟨rfl,rfl⟩
  ·rw [PF i (by omega)];have:=h.ids i x hx;simp only;omega
  ·rw [PF _ (aQW _)];simp only;omega
 ·rcases fq i x hx with ⟨ar,hx⟩ | ⟨rfl,rfl⟩
  ·rw [agf i (by omega)];exact h.iO i x hx
  ·rw [agf _ (aQW _)];simp only;cases hc:(W.iO W.ak.length).contains c with
   | false=>rfl
   | true =>
    rw [aUc] at hc;unfold ag.iO at hc;obtain ⟨t,aD,he⟩:=aRs.1 hc;exact absurd he (po t (aSj aD))
theorem Good.jJ {W V:ag} {d:ch} (h:Good W) (hd:W.jJ d=some V):Good V:=by
 unfold ag.jJ at hd;split at hd
 ·exact h.ng hd
 ·split at hd
  ·exact h.drop hd
  ·split at hd
   ·exact h.rj hd
   ·cases hd
theorem Good.gH {W:ag} (h:Good W):∀ l:List ch,Good (W.gH l).1:=by
 intro l;induction l generalizing W with
 | nil=>exact h
 | cons d l bt =>
  unfold ag.gH;cases hd:W.jJ d with
  | none=>exact bt h
  | some V=>exact bt (h.jJ hd)
end
end Go.Proofs.YtlikikpgmmkjbaaGreat
