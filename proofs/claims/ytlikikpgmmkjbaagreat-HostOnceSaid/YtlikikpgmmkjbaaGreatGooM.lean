import Derived.Test.YtlikikpgmmkjbaaGreatHitS
set_option linter.unusedVariables false
set_option linter.unusedSimpArgs false
set_option maxRecDepth 100000
set_option maxHeartbeats 4000000
open Go.RowKit
namespace Go.Proofs.YtlikikpgmmkjbaaGreat
open Tryz
abbrev aS6:=@Classical.byContradiction
abbrev aUE:=@bne_iff_ne
abbrev aUV:=@List.contains_iff_mem
section
theorem aoc:eC prog bP 22 3 8:=eC.kT (z:= .int .i64 0) (k:=1) underlying22 C8 rfl rfl (by decide) (λ j u h=>IL j u h)
theorem κ.aJ.Q4 {α:Type} {R:κ α} {by_ c:Nat} {w w':World} {A:Option Addr} {l:List α} {F:List Nat} (h:R.aJ by_ w A c l) (hp:R.Plain) (m:Mod F w w') (d:0<l.length→∀ q∈κ.ae A,q∉F):R.aJ by_ w' A c l:=by
 obtain ⟨τ,aa,aw,a1,ess,bK,b_,ed⟩:=h;refine ⟨τ,aa,aw,a1,ess,bK.imp (λ es a _ h=>R.tB (R.ss (hp (B:=0) h) (by simp))),b_,λ aH=> ?_⟩;obtain ⟨b,o,rfl,hc⟩:=ed aH;refine ⟨b,o,Z,λ j u hu=> ?_⟩;have gh:=hc j u hu;have Φ:b<w.heap.size:=by
  apply aS6;intro hn;have:w.heap[b]? =none:=aSv (by omega);simp [World.cell?,this] at gh
 have ar:=m.block b Φ (d aH b (by simp [κ.ae]));simp only [World.cell?] at gh ⊢;rw [ar];exact gh
theorem Pf {w:World} {A:Option Addr} {c:Nat} {T:List ax} (h:ax.rep.aJ 16 w A c T) (k:Nat):(T.getD k default).ok:=by
 rw [aRB];cases aG:T[k]? with
 | none=>exact ⟨by decide,by decide⟩
 | some t=>exact h.y0 (λ fC=>(show _∧_ from fC).2) t (aSc aG)
theorem R1 {t:bf} (h:t.ok):t.spot.ok:=by
 obtain ⟨τ,aa,aw,a1,bK,b_,ed⟩:=h;exact ⟨a1,bK⟩
theorem aDG {t:bf} {c:ax} (h:t.ok) (hc:c.ok):(t.bn c).ok:=by
 obtain ⟨τ,aa,aw,a1,bK,b_,ed⟩:=h;exact ⟨τ,aa,aw,hc.1,hc.2,b_,ed⟩
theorem auF {l:List dm} {id:Int} (h:¬ eD l id<0):0≤eD l id∧(eD l id).toNat<l.length:=by
 rcases auE l id with ⟨τ,_⟩ | ⟨k,τ,aa,_⟩<;>omega
theorem alc {f:aE} {l:List dm} {T:List bf} {k:Nat} (h:eD l (T.getD k default).id<0):q_ f l T k=none:=by unfold q_;rw [aRP h]
theorem aDm {f:aE} {l:List dm} {T:List bf} {k:Nat} (aH:0≤eD l (T.getD k default).id)
  (h:(g_ f (T.getD k default).spot (l.getD (eD l (T.getD k default).id).toNat default).bn≠0∨((fS f (T.getD k default).spot (l.getD (eD l (T.getD k default).id).toNat default).bn).length:Int)<2)∨0<jf T ((fS f (T.getD k default).spot (l.getD (eD l (T.getD k default).id).toNat default).bn).getD 1 default)):q_ f l T k=none:=by
 unfold q_;rw [aRL (by omega)];split
 ·rfl
 ·split
  ·rfl
  ·rw [aRP];rcases h with (h | h) | h
   ·contradiction
   ·omega
   ·exact h
theorem aDn {f:aE} {l:List dm} {T:List bf} {k:Nat} (aH:0≤eD l (T.getD k default).id)
  (h:(g_ f (T.getD k default).spot (l.getD (eD l (T.getD k default).id).toNat default).bn=0∧2≤((fS f (T.getD k default).spot (l.getD (eD l (T.getD k default).id).toNat default).bn).length:Int))∧jf T ((fS f (T.getD k default).spot (l.getD (eD l (T.getD k default).id).toNat default).bn).getD 1 default)≤0):
  q_ f l T k=some ((fS f (T.getD k default).spot (l.getD (eD l (T.getD k default).id).toNat default).bn).getD 1 default):=by
 obtain ⟨⟨τ,aa⟩,aw⟩:=h;unfold q_;rw [aRL (by omega),aRL (by simpa using τ),aRL (by omega),aRL (by omega)]
theorem κ.aJ.azz {α:Type} {R:κ α} {by_ c:Nat} {w:World} {A:Option Addr} {l:List α} (h:R.aJ by_ w A c l) (hs:0<R.size) (aH:0<l.length):∀ q∈κ.ae A,q<w.heap.size:=by
 obtain ⟨τ,aa,aw,a1,ess,bK,b_,ed⟩:=h;obtain ⟨b,o,rfl,hc⟩:=ed aH;intro q I;obtain rfl:q=b:=by simpa [κ.ae] using I
 have az:0<ess.flatten.length:=by rw [b_];exact Nat.mul_pos aH hs
 have gh:=hc 0 _ (aRD az);apply aS6;intro hn;have:w.heap[q]? =none:=aSv (by omega);simp [World.cell?,this] at gh
theorem ax3 (eu:FuncId) (cs:List Value) (p:dm→Bool) (A:Option Addr) (c:Nat) (l:List dm) (w:World) (az:dm.rep.aJ 24 w A c l) (lV:Enters prog eu) (dM:∀ x∈l,∀ w',Ext w w'→Calls prog eu (([.agg #[.int .i64 x.id, .int .i64 x.bn.x, .int .i64 x.bn.y]]:List Value)++cs).toArray w' λ e ku=>e= .returned (.bool (p x))∧Ext w' ku):
  Calls prog 135 #[.slice A l.length c, .func (.func eu) #[] cs.toArray] w (λ e w'=>e= .returned (.int .i64 (fT p l))∧Ext w w'):=by
 have oc:=az.ez;refine ch (n:=19) func135 Z Z Z ?_;refine aj<|va Z<|ai<|aA<|aj<|vm Z<|J (cA underlying124 Z)<|vm Z<|ai<|bM<| ?_;refine e8 (λ cm cl aU=>∃ k:Nat,cl= [(0, .slice A l.length c),(1, .func (.func eu) #[] cs.toArray),(7, .int .i64 (l.length:Int)),(8, .int .i64 (k:Int))]∧cm=l.length - k∧Ext w aU∧(k≤l.length)∧(∀ i,i<k→p (l.getD i default)=false)) _ _ ⟨0,Z,Z,(Ext.bF w),by omega,λ i aq=>by omega⟩ (.cons Z (.cons Z (.cons Z (.cons (bZ Z (by first | omega | rfl | (simp<;>omega))) .nil)))) ?_;rintro MB JH cv ⟨k,rfl,rfl,bg,ar,aK⟩;have:=bg.size;refine aj<|J (blt Z Z)<|ai<|aA<| ?_;refine eg Z (λ lX=> ?_) (λ lX=> ?_)
 ·refine bt<|aA<|bM<|aj<|vm Z<|va Z<|ai<|aj<|vm Z<|vm Z<|vm Z<|J (b' k underlying124 Vg Z Z ((az.keep bg).bR (ba k)) Z (by omega))<|J (ao Z (κ.aJ.ho afS ((az.keep bg).cu (ba k)) (dv (l:=l) (u:=default) (by omega)) aty Vg))<|Km lV Z Z Z ((dM (l.getD k default) (ih (by omega)) _ bg).mono ?_);rintro e I' ⟨rfl,yr⟩;refine ⟨_,Z, ?_⟩;have:=yr.size;have mz:=γ bg yr;refine ai<| ?_;refine dJ Z (λ lY=> ?_) (λ lY=> ?_)
  ·refine aj<|vm Z<|va Z<|ai<|rt<|e_<|bT<|nR<|e_<|bT<|bb (.tmp Z .nil)<| ?_;exact ⟨by have e:=Q1 (p:=p) (l:=l) (d:=default) (k:=k) (by omega) lY aK;rw [e];rfl,mz⟩
  ·refine e9<|b0<|aV<|rg<|J (bad Z Z (bE (by omega)))<|vm Z<|nl<| ?_;exact c6 _ _ ⟨k+1,Z,Z,mz,by omega,wk aK lY⟩ (by omega) (.cons Z (.cons Z (.cons Z (.cons (bZ Z (by first | omega | rfl | (simp<;>omega))) .nil))))
 ·refine dH<|dG<|ef<|dF<|aV<|aj<|va Z<|ai<|rt<|bb (.tmp Z .nil)<| ?_;exact ⟨by have e:=Q0 (p:=p) (l:=l) (d:=default) (λ i aq=>aK i (by omega));rw [e];rfl,bg⟩
theorem azQ (x:dm) (b k:Nat) (A:Option Addr) (c:Nat) (T:List bf) (w:World) (aN:aR w b [.pointer (some ⟨e7 A,ld A+k * 7,none⟩)] 227 (0,0)) (b8:bf.rep.aJ 56 w A c T) (ar:k<T.length):
  Calls prog 136 #[.agg #[.int .i64 x.id, .int .i64 x.bn.x, .int .i64 x.bn.y], .pointer (some ⟨b,0,none⟩)] w (λ e w'=>e= .returned (.bool (x.id == (T.getD k default).id))∧Ext w w'):=by
 have yb:=aN.lt;refine ch (n:=11) func136 Z Z Z ?_;refine aj<|cB Z Z Z Z λ cv bJ a7 ee ab=> ?_;have:=a7.size;have bg:=γ (Ext.bF w) a7;have ei:=ab.lt;refine va Z<|ai<|aA<| ?_;refine rd [(1,0),(2,0),(5,0)] [0,1,2,3,4,5,6,7] (by kernel_rfl) (by kernel_rfl) ?_;refine au Z (λ _=>av atz Z)<|bH Z (λ _ x=>ao Z ((ab.later x).one bc Z))<| ?_;have aN:=aN.later a7;refine bH Z (λ _ x=>ao Z ((aN.later x).one Ho Z))<|au Z (λ _=>b3 Z)<|au Z (λ _=>av Hn Z)<|bH Z (λ _ x=>ao Z (κ.aJ.j7 j9 ((b8.keep (γ bg x)).cu (ba k)) 0 (dv (l:=T) (u:=default) (by omega)) Z bc))<|au Z (λ _=>beq Z Z)<|au Z (λ _=>fg Z)<|fn λ eK cG=> ?_;have:=cG.size;have bQ:=γ bg cG;refine aV<|rt<|bb (.tmp Z .nil)<| ?_;exact ⟨Z,bQ⟩
theorem azP (b k:Nat) (l:List dm) (A:Option Addr) (c:Nat) (OL:Option Addr) (tc:Nat) (T:List bf) (w:World) (az:dm.rep.aJ 24 w A c l) (aN:aR w b [.pointer (some ⟨e7 OL,ld OL+k * 7,none⟩)] 227 (0,0)) (b8:bf.rep.aJ 56 w OL tc T) (ar:k<T.length):
  Calls prog 135 #[.slice A l.length c, .func (.func 136) #[] #[.pointer (some ⟨b,0,none⟩)]] w (λ e w'=>e= .returned (.int .i64 (eD l (T.getD k default).id))∧Ext w w'):=
 ax3 136 [.pointer (some ⟨b,0,none⟩)] (λ g=>g.id == (T.getD k default).id) A c l w az atA (λ x hx w' h=>azQ x b k OL tc T w' (aN.later h) (b8.keep h) ar)
theorem aDt (w0:World) (a:ah.b5) (W:ah) (A:Option Addr) (c:Nat) (l:List dm) (w:World) (ck:bP.aJ 8 w a.P a.p W.field.aZ) (b8:bf.rep.aD 66 56 w w0.heap.size (κ.ae a.T) a.T a.t W.ak) (avX:∀ q∈κ.ae a.P,q∉κ.ae a.T) (az:dm.rep.aJ 24 w A c l) (HQ:0<l.length→∀ q∈κ.ae A,q∉κ.ae a.T) (Fg:W.ak.length≤100000):
  Calls prog 98 #[.agg ((ah.cells a W).toArray), .slice A l.length c] w (λ e w'=>∃ bG b4,e= .returned (.slice bG (W.l6 l).2.length b4)∧bP.aD 3 8 w' w.heap.size (κ.ae bG) bG b4 (W.l6 l).2∧bf.rep.aD 66 56 w' w0.heap.size (κ.ae a.T) a.T a.t (W.l6 l).1.ak∧Mod (κ.ae a.T) w w'):=by
 have oy:=λ q I=>(b8.lt q I).2;have aJG:∀ q∈κ.ae a.T,w0.heap.size≤q:=λ q I=>(b8.lt q I).1;have agG:=Zk b8.has;refine ch (n:=110) func98 Z Z Z ?_;refine aj<|cB Z Z Z Z λ cv bJ a7 ee ab=> ?_;have:=a7.size;have bg:=(Mod.bF (κ.ae a.T) w).trans (Mod.bC a7);have ei:=ab.lt;refine va Z<|ai<|aj<|Yi Z λ eK zF bl ie abf=> ?_;have:=bl.size;have bQ:=bg.trans (Mod.bC bl);have h3:=abf.lt;have anj:=kE.of_nil abf;refine va Z<|ai<|aA<|aj<|J (av kI Z)<| ?_;have ab:=ab.later bl;refine J (ao Z (ab.one mM Z))<|J (cA underlying26 Z)<|vm Z<|ai<|bM<| ?_;have b8:=b8.later (γ a7 bl);refine e8 (λ cm cl aU=>∃ k:Nat,cl= [(1, .slice A l.length c),(2, .pointer (some ⟨bJ,0,none⟩)),(4, .slice none 0 0),(5, .map (some zF)),(17, .slice a.T W.ak.length a.t),(18, .int .i64 (W.ak.length:Int)),(19, .int .i64 (k:Int))]∧cm=W.ak.length - k∧Mod (κ.ae a.T) w aU∧bf.rep.aD 66 56 aU w0.heap.size (κ.ae a.T) a.T a.t (W.ak)∧aR aU bJ (ah.cells a W) 28 (0,0)∧kE aU zF (jf (W.ak.take k))∧(k≤W.ak.length)) _ _ ⟨0,Z,Z,bQ,b8,ab,anj,by omega⟩ (.cons Z (.cons Z (.cons Z (.cons Z (.cons Z (.cons Z (.cons (bZ Z (by first | omega | rfl | (simp<;>omega))) .nil))))))) ?_;rintro p7 aG2 u' ⟨k,rfl,rfl,jW,b8,ab,gQ,ar⟩;have:=jW.size;have Nc:=λ q I=>(b8.lt q I).2;have o':=ab.lt;have akd:=gQ.lt;refine aj<|J (blt Z Z)<|ai<|aA<| ?_;refine eg Z (λ uK=> ?_) (λ uK=> ?_)
 ·refine bt<|aA<|bM<|aj<|J (b' k underlying26 lU Z Z (b8.has.bR (ba k)) Z (by omega))<|J (ao Z (κ.aJ.ho j9 (b8.has.cu (ba k)) (dv (l:=W.ak) (u:=default) (by omega)) CN lU))<|al Z KG Z Z λ ve xi cx aiP eH=> ?_;have:=cx.size;have lM:=jW.trans (Mod.bC cx);have akf:=eH.lt;refine st (new:= [.int .i64 ((W.ak.getD k default).id), .int .i64 ((W.ak.getD k default).owner), .int .i64 ((W.ak.getD k default).kind), .int .i64 ((W.ak.getD k default).spot.x), .int .i64 ((W.ak.getD k default).spot.y), .int .i64 ((W.ak.getD k default).c0), .int .i64 ((W.ak.getD k default).load)]) Z Z eH Z lU Z Z Z λ tN gq eH=> ?_;have:=gq.size;have iG:=lM.md gq (λ q I=> .inr (by have:=aRz.1 I;omega));refine ai<| ?_;have gQ:=gQ.later cx;have gQ:=gQ.mod gq aO;refine YQ zF (jf (W.ak.take k)) [(2,0),(3,0),(5,2),(7,3)] [0,1,2,3,4,5,6,7] (by kernel_rfl) (by kernel_rfl) ?_;refine s6 Z Z (λ _=>aM Z) Z<|s6 Z Z (λ _=>av uG Z) Z<|CP Z Z (λ _ x=>ao Z ((eH.mod x.1 aO).par [.int .i64 ((W.ak.getD k default).spot.x), .int .i64 ((W.ak.getD k default).spot.y)] cj bU Z)) Z<|CP Z Z (λ _ x=>Q_ (p:=(W.ak.getD k default).spot) (x.2 gQ) (R1 (agG k)) Z Z) Z<|s6 Z Z (λ _=>bad Z Z (bE ((by have τ:=Rw (W.ak.take k) ((W.ak.getD k default).spot);(try rw [aRE] at τ);omega)))) Z<|VB Z Z Z λ I7 jT Q hK=>meC (p:=(W.ak.getD k default).spot) (gQ.later jT) (R1 (agG k)) Z Z Z λ BL aPp kQ To=>hK _ _ ⟨(pI.bC jT).trans ⟨kQ,λ _=>To.map⟩, ?_⟩;have:=jT.size;have qv:=iG.trans (Mod.bC jT);have:=kQ.size;have k2:=qv.md kQ (λ q I=> .inr (by have:=aRz.1 I;omega));have ank:=To.map;have aB1:=ank.lt;refine s6 Z Z (λ _=>ex Z Z) Z<|Vm Z Z Z λ I9 fV Q hK=>Vi (To.later fV) Z Z Z λ F_ FG Od=>hK _ _ ?_;have:=fV.size;have vt:=k2.trans (Mod.bC fV);have:=FG.size;have tX:=vt.md FG (λ q I=> .inr (by have:=aRz.1 I;omega));have akg:=Od.lt;refine Vv λ Nq jU=> ?_;have:=jU.size;have yz:=tX.trans (Mod.bC jU);refine b0<|aV<|rg<|J (bad Z Z (bE (by omega)))<|vm Z<|nl<| ?_;have b8:=b8.later cx;have b8:=b8.mod gq (λ q I h=>by have Φ:=aRz.1 h;exfalso;(have:=Nc q I;have:=oy q I;omega));have b8:=b8.later jT;have b8:=b8.mod kQ (λ q I h=>by have Φ:=aRz.1 h;exfalso;(have:=Nc q I;have:=oy q I;omega));have b8:=b8.later fV;have b8:=b8.mod FG (λ q I h=>by have Φ:=aRz.1 h;exfalso;(have:=Nc q I;have:=oy q I;omega));have b8:=b8.later jU;have ab:=ab.later cx;have ab:=ab.mod gq aO;have ab:=ab.later jT;have ab:=ab.mod kQ aO;have ab:=ab.later fV;have ab:=ab.mod FG aO;have ab:=ab.later jU;have Od:=Od.later jU;exact c6 _ _ ⟨k+1,Z,Z,yz,b8,ab,(by rw [aAw (by omega)];exact Od),by omega⟩ (by omega) (.cons Z (.cons Z (.cons Z (.cons Z (.cons Z (.cons Z (.cons (bZ Z (by first | omega | rfl | (simp<;>omega))) .nil)))))))
 ·refine dH<|dG<|ef<|dF<|aV<|aj<|va Z<|ai<|aA<|aj<|J (av kI Z)<|J (ao Z (ab.one mM Z))<|J (cA underlying26 Z)<|vm Z<|ai<|bM<| ?_;have k8:k=W.ak.length:=by omega
  subst k8;have abe:kE u' zF (jf W.ak):=by have h:=gQ;rw [aSi] at h;exact h
  refine e8 (λ cm cl aU=>∃ k:Nat,∃ T:List bf,∃ M:List Int,∃ yF:Option Addr,∃ G':Nat,cl= [(1, .slice A l.length c),(2, .pointer (some ⟨bJ,0,none⟩)),(4, .slice none 0 0),(5, .map (some zF)),(8, .slice yF M.length G'),(33, .int .i64 (W.ak.length:Int)),(34, .int .i64 (k:Int))]∧cm=W.ak.length - k∧Mod (κ.ae a.T) w aU∧aR aU bJ (ah.cells a W) 28 (0,0)∧kE aU zF (jf T)∧bf.rep.aD 66 56 aU w0.heap.size (κ.ae a.T) a.T a.t (T)∧bP.aD 3 8 aU w.heap.size (κ.ae yF) yF G' (M)∧(k≤W.ak.length)∧(jR W.field l W.ak k=(T,M))∧(T.length=W.ak.length)∧(M.length≤k)∧(∀ q∈κ.ae a.T,q=bJ→False)∧(∀ q∈κ.ae a.T,q=zF→False)∧(∀ q∈κ.ae yF,q=bJ→False)∧(∀ q∈κ.ae yF,q=zF→False)∧(∀ q∈κ.ae yF,q∈κ.ae a.T→False)) _ _ ⟨0,W.ak, [],none,0,Z,Z,jW,ab,abe,b8,(κ.aD.nil _),by omega,rfl,rfl,by simp,(λ q I Φ=>by (have:=Nc q I;have:=oy q I;omega)),(λ q I Φ=>by (have:=Nc q I;have:=oy q I;omega)),(λ q I Φ=>by (simp [κ.ae] at I)),(λ q I Φ=>by (simp [κ.ae] at I)),(λ q I Φ=>by (simp [κ.ae] at I))⟩ (.cons Z (.cons Z (.cons Z (.cons Z (.cons Z (.cons Z (.cons (bZ Z (by first | omega | rfl | (simp<;>omega))) .nil))))))) ?_;rintro nI aHi Ns ⟨k,T,M,yF,G',rfl,rfl,sH,ab,M2,dg,gb,ar,hS,V',aJU,nu,rL,uE,n7,n8⟩;have:=sH.size;have aOV:=ab.lt;have aOW:=M2.lt;have Sj:=λ q I=>(dg.lt q I).2;have Sk:=λ q I=>(gb.lt q I).2;have QL:=Zk dg.has;refine aj<|J (blt Z Z)<|ai<|aA<| ?_;refine eg Z (λ K'=> ?_) (λ K'=> ?_)
  ·refine bt<|aA<|bM<|aj<|vm Z<|va Z<|ai<|aj<|J (av kI Z)<|J (ao Z (ab.one mM Z))<|vm Z<|J (b' k underlying26 lU Z Z (dg.has.bR (ba k)) Z (by omega))<|al Z atB Z Z λ Nv acg iE aMy gP=> ?_;have:=iE.size;have yB:=sH.trans (Mod.bC iE);have aO1:=gP.lt;refine st (new:= [.pointer (some ⟨e7 a.T,ld a.T+k * 7,none⟩)]) Z Z gP Z ar4 Z Z Z λ Nw o7 gP=> ?_;have:=o7.size;have rp:=yB.md o7 (λ q I=> .inr (by have:=aRz.1 I;omega));refine ai<|aj<|vm Z<|J (Iu Z Z)<| ?_;have dg:=dg.later iE;have dg:=dg.mod o7 (bL Sj);refine ca ar5 Z Z ((azP acg k l A c a.T a.t T _ (az.Q4 (κ.di).1 rp HQ) gP dg.has (by omega)).mono ?_);rintro e ZI ⟨rfl,hW⟩;refine ⟨_,Z, ?_⟩;have:=hW.size;have vz:=rp.trans (Mod.bC hW);refine va Z<|ai<|aA<|aj<|vm Z<|J (blt Z Z)<|ai<| ?_;refine eg Z (λ uL=> ?_) (λ uL=> ?_)
   ·refine dH<|dG<|dF<|aV<|rg<|J (bad Z Z (bE (by omega)))<|vm Z<|nl<| ?_;have ab:=ab.later iE;have ab:=ab.mod o7 aO;have ab:=ab.later hW;have M2:=M2.later iE;have M2:=M2.mod o7 aO;have M2:=M2.later hW;have dg:=dg.later hW;have gb:=gb.later iE;have gb:=gb.mod o7 (bL Sk);have gb:=gb.later hW;exact c6 _ _ ⟨k+1,T,M,yF,G',Z,Z,vz,ab,M2,dg,gb,by omega,F0 hS (alc uL),V',by omega,(λ q I Φ=>by (exact nu q I Φ)),(λ q I Φ=>by (exact rL q I Φ)),(λ q I Φ=>by (exact uE q I Φ)),(λ q I Φ=>by (exact n7 q I Φ)),(λ q I Φ=>by (exact n8 q I Φ))⟩ (by omega) (.cons Z (.cons Z (.cons Z (.cons Z (.cons Z (.cons Z (.cons (bZ Z (by first | omega | rfl | (simp<;>omega))) .nil)))))))
   ·obtain ⟨CZ,WN⟩:=auF uL;refine bt<|aA<| ?_;refine rd [(1,0),(2,0),(5,0),(10,0),(11,2)] [0,1,2,3,4,5,6,7,8,9,10,11,12,13,14,15,16,17,18] (by kernel_rfl) (by kernel_rfl) ?_;refine au Z (λ _=>av s4 Z)<| ?_;have ab:=ab.later iE;have ab:=ab.mod o7 aO;have ab:=ab.later hW;refine bH Z (λ _ x=>ao Z ((ab.later x).par [.int .i64 W.field.wide, .int .i64 W.field.high, .slice a.P W.field.aZ.length a.p] lS lT Z))<| ?_;have gP:=gP.later hW;refine bH Z (λ _ x=>ao Z ((gP.later x).one Ho Z))<|au Z (λ _=>b3 Z)<|au Z (λ _=>av uG Z)<| ?_;have dg:=dg.later hW;refine bH Z (λ _ x=>ao Z (κ.aJ.part j9 ((dg.later x).has.cu (ba k)) 3 (ds:= [.int .i64 ((T.getD k default).spot.x), .int .i64 ((T.getD k default).spot.y)]) (dv (l:=T) (u:=default) (by omega)) Z cj bU))<|au Z (λ _=>aM Z)<|au Z (λ _=>aM Z)<|au Z (λ _=>b' ((eD l (T.getD k default).id).toNat) underlying124 Vg Z Z ((az.Q4 (κ.di).1 vz HQ).bR (ba ((eD l (T.getD k default).id).toNat))) (by omega) (by omega))<|au Z (λ _=>av ar6 Z)<|bH Z (λ _ x=>ao Z (κ.aJ.part afS ((az.Q4 (κ.di).1 (vz.trans (Mod.bC x)) HQ).cu (ba ((eD l (T.getD k default).id).toNat))) 1 (ds:= [.int .i64 ((l.getD ((eD l (T.getD k default).id).toNat) default).bn.x), .int .i64 ((l.getD ((eD l (T.getD k default).id).toNat) default).bn.y)]) (dv (l:=l) (u:=default) (by omega)) Z cj bU))<|gm Z Z Z λ SC eL Q hK=>ca ar7 Z Z ((aBc W.field ((T.getD k default).spot) ((l.getD ((eD l (T.getD k default).id).toNat) default).bn) _ _ _ (ck.Q4 (κ.di).1 (vz.trans (Mod.bC eL)) (λ _=>avX))).mono ?_);rintro e SE ⟨aHQ,aRy,rfl,n3,nW⟩;refine ⟨_,Z,hK _ _ ⟨γ eL nW, ?_⟩⟩;have:=eL.size;have z6:=vz.trans (Mod.bC eL);have:=nW.size;have B0:=z6.trans (Mod.bC nW);have aQk:=λ q I=>(n3.lt q I).2;have ai3:=λ q I=>(n3.lt q I).1;have QW:=n3.has;refine au Z (λ _=>aM Z)<|au Z (λ _=>ex Z Z)<|au Z (λ _=>ex Z Z)<|au Z (λ _=>ex Z Z)<|au Z (λ _=>fg Z)<|au Z (λ _=>fg Z)<|au Z (λ _=>fg Z)<|fn λ Jf kz=> ?_;have:=kz.size;have t_:=B0.trans (Mod.bC kz);refine aV<|aA<|aj<|vm Z<|J (bne Z Z)<|vm Z<|bp Z Z Z Z (λ hc=>aM Z) Z<|bp Z Z Z Z (λ hc=>cA underlying25 (gt hc Z)) Z<|bp Z Z Z Z (λ hc=>blt (gt hc Z) Z) Z<|J (fv Z Z Z Z)<|vm Z<|bp Z Z Z Z (λ hc=>aM Z) Z<|bp Z Z Z Z (λ hc=>aM Z) Z<| ?_;have n3:=n3.later kz;refine bp Z Z Z Z (λ hc=>b' 1 underlying25 bU (gt hc Z) Z (n3.has.bR (ba 1 (by (try simp only [cC] at hc);omega))) Z (by (try simp only [cC] at hc);omega)) Z<|bp Z Z Z Z (λ hc=>ao (gt hc Z) (κ.aJ.ho A7 (n3.has.cu (ba 1 (by (try simp only [cC] at hc);omega))) (dv (l:=fS W.field ((T.getD k default).spot) ((l.getD ((eD l (T.getD k default).id).toNat) default).bn)) (u:=default) (by (try simp only [cC] at hc);omega)) cj bU)) Z<| ?_;have M2:=M2.later iE;have M2:=M2.mod o7 aO;have M2:=M2.later (γ hW (γ eL (γ nW kz)));refine bp Z Z Z Z (λ hc=>Q_ (p:=(fS W.field ((T.getD k default).spot) ((l.getD ((eD l (T.getD k default).id).toNat) default).bn)).getD 1 default) M2 (Pf QW 1) (gt hc Z) (gt hc Z)) Z<|bp Z Z Z Z (λ hc=>iw (gt hc Z) Z) Z<|J (fv Z Z Z Z)<|ai<| ?_;refine dJ Z (λ Lb=> ?_) (λ Lb=> ?_)
    ·simp only [cC] at Lb;refine dH<|dG<|dF<|aV<|rg<|J (bad Z Z (bE (by omega)))<|vm Z<|nl<| ?_;have ab:=ab.later (γ eL (γ nW kz));have dg:=dg.later (γ eL (γ nW kz));have gb:=gb.later iE;have gb:=gb.mod o7 (bL Sk);have gb:=gb.later (γ hW (γ eL (γ nW kz)));exact c6 _ _ ⟨k+1,T,M,yF,G',Z,Z,t_,ab,M2,dg,gb,by omega,F0 hS (aDm (by omega) Lb),V',by omega,(λ q I Φ=>by (exact nu q I Φ)),(λ q I Φ=>by (exact rL q I Φ)),(λ q I Φ=>by (exact uE q I Φ)),(λ q I Φ=>by (exact n7 q I Φ)),(λ q I Φ=>by (exact n8 q I Φ))⟩ (by omega) (.cons Z (.cons Z (.cons Z (.cons Z (.cons Z (.cons Z (.cons (bZ Z (by first | omega | rfl | (simp<;>omega))) .nil)))))))
    ·simp only [cC] at Lb;refine bt<|aA<| ?_;refine YQ zF (jf T) [(1,0),(4,0),(5,0),(7,2),(9,3)] [0,1,2,3,4,5,6,7,8,9] (by kernel_rfl) (by kernel_rfl) ?_;refine s6 Z Z (λ _=>aM Z) Z<| ?_;have gP:=gP.later (γ eL (γ nW kz));refine CP Z Z (λ _ x=>ao Z ((gP.mod x.1 aO).one Ho Z)) Z<|s6 Z Z (λ _=>b3 Z) Z<|s6 Z Z (λ _=>av uG Z) Z<| ?_;have dg:=dg.later (γ eL (γ nW kz));refine CP Z Z (λ _ x=>ao Z (κ.aJ.part j9 ((dg.mod x.1 (λ q I h=>by have Φ:=aRz.1 h;exfalso;(exact rL q I Φ))).has.cu (ba k)) 3 (ds:= [.int .i64 ((T.getD k default).spot.x), .int .i64 ((T.getD k default).spot.y)]) (dv (l:=T) (u:=default) (by omega)) Z cj bU)) Z<|CP Z Z (λ _ x=>Q_ (p:=(T.getD k default).spot) (x.2 M2) (R1 (QL k)) Z Z) Z<|s6 Z Z (λ _=>mm Z Z (bE ((by have τ:=Rw T ((T.getD k default).spot);(try rw [aRE] at τ);omega)))) Z<|VB Z Z Z λ ZM l_ Q hK=>meC (p:=(T.getD k default).spot) (M2.later l_) (R1 (QL k)) Z Z Z λ alX aPn l1 Tm=>hK _ _ ⟨(pI.bC l_).trans ⟨l1,λ _=>Tm.map⟩, ?_⟩;have:=l_.size;have Gx:=t_.trans (Mod.bC l_);have:=l1.size;have Jr:=Gx.md l1 (λ q I=> .inr (by have:=aRz.1 I;omega));have anh:=Tm.map;have aOd:=anh.lt;refine s6 Z Z (λ _=>ex Z Z) Z<|Vm Z Z Z λ alY jS Q hK=>Vi (Tm.later jS) Z Z Z λ aEK jE Ad=>hK _ _ ?_;have:=jS.size;have NF:=Jr.trans (Mod.bC jS);have:=jE.size;have ZV:=NF.md jE (λ q I=> .inr (by have:=aRz.1 I;omega));have aOi:=Ad.lt;refine Vv λ al0 DL=> ?_;have:=DL.size;have DV:=ZV.trans (Mod.bC DL);refine aV<|aA<| ?_;refine rd [(0,0),(3,0),(6,3)] [0,1,2,3,4,5,6] (by kernel_rfl) (by kernel_rfl) ?_;have gP:=gP.later l_;have gP:=gP.mod l1 aO;have gP:=gP.later jS;have gP:=gP.mod jE aO;have gP:=gP.later DL;refine bH Z (λ _ x=>ao Z ((gP.later x).one Ho Z))<|au Z (λ _=>aM Z)<| ?_;have n3:=n3.later l_;have n3:=n3.mod l1 (bA ai3);have n3:=n3.later jS;have n3:=n3.mod jE (bA ai3);have n3:=n3.later DL;refine au Z (λ _=>b' 1 underlying25 bU Z Z (n3.has.bR (ba 1)) Z (by omega))<|bH Z (λ _ x=>ao Z (κ.aJ.ho A7 ((n3.later x).has.cu (ba 1)) (dv (l:=fS W.field ((T.getD k default).spot) ((l.getD ((eD l (T.getD k default).id).toNat) default).bn)) (u:=default) (by omega)) cj bU))<|au Z (λ _=>b3 Z)<|au Z (λ _=>av uG Z)<| ?_;have dg:=dg.later l_;have dg:=dg.mod l1 (λ q I h=>by have Φ:=aRz.1 h;exfalso;(exact rL q I Φ));have dg:=dg.later jS;have dg:=dg.mod jE (λ q I h=>by have Φ:=aRz.1 h;exfalso;(exact rL q I Φ));have dg:=dg.later DL;refine eP Z Z Z λ Sw kc Q hK=>aDa (q:=(T).getD k default) (q':=(⟨((T).getD k default).id,((T).getD k default).owner,((T).getD k default).kind,⟨((fS W.field ((T.getD k default).spot) ((l.getD ((eD l (T.getD k default).id).toNat) default).bn)).getD 1 default).x,((fS W.field ((T.getD k default).spot) ((l.getD ((eD l (T.getD k default).id).toNat) default).bn)).getD 1 default).y⟩,((T).getD k default).c0,((T).getD k default).load⟩:bf)) (i:=k) (j:=3) (old:= [.int .i64 (((T).getD k default).id), .int .i64 (((T).getD k default).owner), .int .i64 (((T).getD k default).kind), .int .i64 (((T).getD k default).spot.x), .int .i64 (((T).getD k default).spot.y), .int .i64 (((T).getD k default).c0), .int .i64 (((T).getD k default).load)]) (part:= [.int .i64 (((fS W.field ((T.getD k default).spot) ((l.getD ((eD l (T.getD k default).id).toNat) default).bn)).getD 1 default).x), .int .i64 (((fS W.field ((T.getD k default).spot) ((l.getD ((eD l (T.getD k default).id).toNat) default).bn)).getD 1 default).y)]) (es:= [.int .i64 (((T).getD k default).id), .int .i64 (((T).getD k default).owner), .int .i64 (((T).getD k default).kind), .int .i64 (((fS W.field ((T.getD k default).spot) ((l.getD ((eD l (T.getD k default).id).toNat) default).bn)).getD 1 default).x), .int .i64 (((fS W.field ((T.getD k default).spot) ((l.getD ((eD l (T.getD k default).id).toNat) default).bn)).getD 1 default).y), .int .i64 (((T).getD k default).c0), .int .i64 (((T).getD k default).load)]) (dg.later kc) κ.di (dv (l:=T) (u:=default) (by omega)) j9 Z Z Z Z Z Z (λ _=>⟨Z,(aDG (QL k) (Pf QW 1))⟩) bU λ aQB Ig n4=>hK _ _ ?_;have:=kc.size;have tV:=DV.trans (Mod.bC kc);have:=Ig.size;have aFJ:=tV.md Ig (λ q I=> .inl I);refine fn λ aQF Gf=> ?_;have:=Gf.size;have aFN:=aFJ.trans (Mod.bC Gf);refine aV<|aA<| ?_;have Ad:=Ad.later (γ DL kc);have Ad:=Ad.mod Ig (λ I=>rL _ I rfl);have Ad:=Ad.later Gf;refine YQ zF (tI (jf T) ((T.getD k default).spot) (((jf T) ((T.getD k default).spot)) - 1)) [(1,0),(4,0),(5,0),(7,2),(9,3)] [0,1,2,3,4,5,6,7,8,9] (by kernel_rfl) (by kernel_rfl) ?_;refine s6 Z Z (λ _=>aM Z) Z<| ?_;have gP:=gP.later kc;have aqS:∀ q∈κ.ae a.T,q=acg→False:=λ q I Φ=>by (have:=Sj q I;omega)
     have gP:=gP.mod Ig (λ I=>aqS _ I rfl);have gP:=gP.later Gf;refine CP Z Z (λ _ x=>ao Z ((gP.mod x.1 aO).one Ho Z)) Z<|s6 Z Z (λ _=>b3 Z) Z<|s6 Z Z (λ _=>av uG Z) Z<| ?_;have n4:=n4.later Gf;refine CP Z Z (λ _ x=>ao Z (κ.aJ.part j9 ((n4.mod x.1 (λ q I h=>by have Φ:=aRz.1 h;exfalso;(exact rL q I Φ))).has.cu (ba k (by rw [aRK];omega))) 3 (ds:= [.int .i64 (((T.getD k default).bn ((fS W.field (T.getD k default).spot (l.getD (eD l (T.getD k default).id).toNat default).bn).getD 1 default)).spot.x), .int .i64 (((T.getD k default).bn ((fS W.field (T.getD k default).spot (l.getD (eD l (T.getD k default).id).toNat default).bn).getD 1 default)).spot.y)]) (aRY (by omega)) Z cj bU)) Z<|CP Z Z (λ _ x=>Q_ (p:=((T.getD k default).bn ((fS W.field (T.getD k default).spot (l.getD (eD l (T.getD k default).id).toNat default).bn).getD 1 default)).spot) (x.2 Ad) (Pf QW 1) Z Z) Z<|s6 Z Z (λ _=>bad Z Z (bE ((by have aH:=Rw T ((T.getD k default).spot);have τ:=aEe (x:=((T.getD k default).spot)) (v:=(((jf T) ((T.getD k default).spot)) - 1)) (Rw T) (by omega) (by omega) (((T.getD k default).bn ((fS W.field (T.getD k default).spot (l.getD (eD l (T.getD k default).id).toNat default).bn).getD 1 default)).spot);omega)))) Z<|VB Z Z Z λ al2 nb Q hK=>meC (p:=((T.getD k default).bn ((fS W.field (T.getD k default).spot (l.getD (eD l (T.getD k default).id).toNat default).bn).getD 1 default)).spot) (Ad.later nb) (Pf QW 1) Z Z Z λ al3 aPo FB Tn=>hK _ _ ⟨(pI.bC nb).trans ⟨FB,λ _=>Tn.map⟩, ?_⟩;have:=nb.size;have NI:=aFN.trans (Mod.bC nb);have:=FB.size;have NJ:=NI.md FB (λ q I=> .inr (by have:=aRz.1 I;omega));have ani:=Tn.map;have aOq:=ani.lt;refine s6 Z Z (λ _=>ex Z Z) Z<|Vm Z Z Z λ aEO Gg Q hK=>Vi (Tn.later Gg) Z Z Z λ aEP zw GH=>hK _ _ ?_;have:=Gg.size;have ZX:=NJ.trans (Mod.bC Gg);have:=zw.size;have ZY:=ZX.md zw (λ q I=> .inr (by have:=aRz.1 I;omega));have aOu:=GH.lt;refine Vv λ aQN wQ=> ?_;have:=wQ.size;have aFU:=ZY.trans (Mod.bC wQ);refine aV<|rg<|vm Z<| ?_;have gP:=gP.later nb;have gP:=gP.mod FB aO;have gP:=gP.later Gg;have gP:=gP.mod zw aO;have gP:=gP.later wQ;refine J (ao Z (gP.one Ho Z))<|J (b3 Z)<|J (av Hn Z)<| ?_;have n4:=n4.later nb;have n4:=n4.mod FB (λ q I h=>by have Φ:=aRz.1 h;exfalso;(exact rL q I Φ));have n4:=n4.later Gg;have n4:=n4.mod zw (λ q I h=>by have Φ:=aRz.1 h;exfalso;(exact rL q I Φ));have n4:=n4.later wQ;refine J (ao Z (κ.aJ.j7 j9 (n4.has.cu (ba k (by rw [aRK];omega))) 0 (aRY (by omega)) Z bc))<|cX (e:= 3) (cs:= [.int .i64 (((T.getD k default).bn ((fS W.field (T.getD k default).spot (l.getD (eD l (T.getD k default).id).toNat default).bn).getD 1 default)).id)]) Z (λ _=>by kernel_rfl) Z λ al6 ao9 qq ayO Jz=> ?_;have:=qq.size;have NL:=aFU.trans (Mod.bC qq);have aBQ:=Jz.lt;have gb:=gb.later iE;have gb:=gb.mod o7 (bL Sk);have gb:=gb.later (γ hW (γ eL (γ nW (γ kz l_))));have gb:=gb.mod l1 (λ q I h=>by have Φ:=aRz.1 h;exfalso;(exact n7 q I Φ));have gb:=gb.later jS;have gb:=gb.mod jE (λ q I h=>by have Φ:=aRz.1 h;exfalso;(exact n7 q I Φ));have gb:=gb.later (γ DL kc);have gb:=gb.mod Ig (λ q I h=>by exfalso;(exact n8 q I h));have gb:=gb.later (γ Gf nb);have gb:=gb.mod FB (λ q I h=>by have Φ:=aRz.1 h;exfalso;(exact n7 q I Φ));have gb:=gb.later Gg;have gb:=gb.mod zw (λ q I h=>by have Φ:=aRz.1 h;exfalso;(exact n7 q I Φ));have gb:=gb.later (γ wQ qq);refine ap aoc κ.di gb (aR.gB (R:=bP) (by_:=8) (q:=((T.getD k default).bn ((fS W.field (T.getD k default).spot (l.getD (eD l (T.getD k default).id).toNat default).bn).getD 1 default)).id) Jz ⟨Z,bI.2 (bI.1 (QL k).1)⟩ (by decide)) Z Z (by simp only [aRG,aRM];omega) (by simp only [aRG,aRM];omega) (by omega) Z λ aEQ amX apZ Il abG VF aNy=> ?_;have:=Il.size;have ZZ:=NL.md Il (λ q I=> .inr ((λ q I=>aR5 (by omega) (gb.lt q I).1) q I));have aDZ:=λ q I=>(abG.lt q I).2;have:=Il.size;refine va Z<|nl<|b0<|aV<|rg<|J (bad Z Z (bE (by omega)))<|vm Z<|nl<| ?_;have V9:=M7 hS (aDn (by omega) Lb);have ab:=ab.later (γ eL (γ nW (γ kz l_)));have ab:=ab.mod l1 aO;have ab:=ab.later jS;have ab:=ab.mod jE aO;have ab:=ab.later (γ DL kc);have ab:=ab.mod Ig (λ I=>nu _ I rfl);have ab:=ab.later (γ Gf nb);have ab:=ab.mod FB aO;have ab:=ab.later Gg;have ab:=ab.mod zw aO;have ab:=ab.later (γ wQ qq);have ab:=ab.mod Il (λ I=>uE _ I rfl);have GH:=GH.later (γ wQ qq);have GH:=GH.mod Il (λ I=>n7 _ I rfl);have n4:=n4.later qq;have n4:=n4.mod Il (λ q I h=>by exfalso;(exact n8 q h I));exact c6 _ _ ⟨k+1,(T).set k ((⟨((T).getD k default).id,((T).getD k default).owner,((T).getD k default).kind,⟨((fS W.field ((T.getD k default).spot) ((l.getD ((eD l (T.getD k default).id).toNat) default).bn)).getD 1 default).x,((fS W.field ((T.getD k default).spot) ((l.getD ((eD l (T.getD k default).id).toNat) default).bn)).getD 1 default).y⟩,((T).getD k default).c0,((T).getD k default).load⟩:bf)),M++ [((T.getD k default).bn ((fS W.field (T.getD k default).spot (l.getD (eD l (T.getD k default).id).toNat default).bn).getD 1 default)).id],amX,apZ,Z,Z,ZZ,ab,(by rw [aAu (by omega)];exact GH),n4,abG,by omega,V9,by rw [aRK];exact V',by rw [aRH,aSf];omega,(λ q I Φ=>by (exact nu q I Φ)),(λ q I Φ=>by (exact rL q I Φ)),(λ q I Φ=>by (exact aRO (VF q I) (λ ahF=>by (exact uE q ahF Φ)) (λ ahF=>by omega))),(λ q I Φ=>by (exact aRO (VF q I) (λ ahG=>by (exact n7 q ahG Φ)) (λ ahG=>by omega))),(λ q I Φ=>by (exact aRO (VF q I) (λ ahH=>by (exact n8 q ahH Φ)) (λ ahH=>by (have:=Sj q Φ;omega))))⟩ (by omega) (.cons Z (.cons Z (.cons Z (.cons Z (.cons Z (.cons Z (.cons (bZ Z (by first | omega | rfl | (simp<;>omega))) .nil)))))))
  ·refine dH<|dG<|ef<|dF<|aV<|aj<|vm Z<|va Z<|ai<|rt<|bb (.tmp Z .nil)<| ?_;have k8:k=W.ak.length:=by omega
   subst k8;have a_:(W.l6 l).2=M:=by show (jR _ _ _ _).2=M;rw [hS]
   have bj:(W.l6 l).1.ak=T:=by show (jR _ _ _ _).1=T;rw [hS]
   exact ⟨yF,G',by rw [a_];rfl,by rw [a_];exact gb,by rw [bj];exact dg,sH⟩
end
section
def aHo (W:ah) (p:bf→Bool) (w:World) (e:Ending) (w':World):Prop:=e= .returned (.tuple #[.int .i64 (aE5 W p), .bool (aml W p), .int .i64 W.bo])∧Below w.heap.size w w'
end
section
theorem bq.az2 {w aP:World} {aC:Nat} {a:ah.b5} {W:ah} {l:List bf} (h:bq w aC a W) (m:Mod (κ.ae a.T) w aP) (b8:bf.rep.aD 66 56 aP aC (κ.ae a.T) a.T a.t l):bq aP aC a {W with ak:=l}:=by
 have hn:=(aSt.1 h.apart).2.2;have d:∀ q∈κ.ae a.P++κ.ae a.B++κ.ae a.S++κ.ae a.M,q∉κ.ae a.T:=λ q I aG=>hn q I q aG rfl;exact ⟨h.P.mod m (λ q I=>d q (by simp [I])),h.B.mod m (λ q I=>d q (by simp [I])),h.S.mod m (λ q I=>d q (by simp [I])),h.M.mod m (λ q I=>d q (by simp [I])),b8,h.apart,h.nums⟩
theorem aua {w:World} {aC:Nat} {a:ah.b5} {W:ah} (h:bq w aC a W):∀ q∈κ.ae a.P,q∉κ.ae a.T:=λ q I aG=>(aSt.1 h.apart).2.2 q (by simp [I]) q aG rfl
theorem az6 (w0:World) (a:ah.b5) (W:ah) (A:Option Addr) (c:Nat) (l:List dm) (w:World) (qP:bq w w0.heap.size a W) (az:dm.rep.aJ 24 w A c l) (HQ:0<l.length→∀ q∈κ.ae A,q∉κ.ae a.T) (Fg:W.ak.length≤100000):
  Calls prog 98 #[.agg (ah.cells a W).toArray, .slice A l.length c] w (λ e w'=>∃ bG b4,e= .returned (.slice bG (W.l6 l).2.length b4)∧bP.aD 3 8 w' w.heap.size (κ.ae bG) bG b4 (W.l6 l).2∧bq w' w0.heap.size a (W.l6 l).1∧Mod (κ.ae a.T) w w'):=by
 refine (aDt w0 a W A c l w qP.P.has qP.T (aua qP) az HQ Fg).mono ?_;rintro e w' ⟨bG,b4,rfl,τ,aa,aw⟩;exact ⟨bG,b4,Z,τ,qP.az2 aw aa,aw⟩
theorem Ze (W:ah) (l:List dm):(W.l6 l).1.ak.length=W.ak.length:=(R4 _).1
theorem aDu (a:ah.b5) (W:ah) (l:List dm):ah.cells a W=ah.cells a (W.l6 l).1:=by
 unfold ah.cells;rw [Ze];rfl
def sm (W:ah) (l:List dm):Int:=if W.bo≠0 then W.bo else if 200<l.length then 2 else 0
noncomputable def hk (W:ah) (l:List dm):ah:=if sm W l≠0 then ah.zero else (W.l6 l).1
noncomputable def o8 (W:ah) (l:List dm):List Int:=if sm W l≠0 then [] else (W.l6 l).2
theorem ajf {W:ah} {l:List dm} (h:¬ W.bo=0):sm W l=W.bo∧hk W l=ah.zero∧o8 W l= []:=by
 have e:sm W l=W.bo:=by unfold sm;rw [aRP h]
 unfold hk o8;rw [e,aRP h,aRP h];exact ⟨Z,Z,Z⟩
theorem ajg {W:ah} {l:List dm} (h:W.bo=0) (az:(200:Int)<(l.length:Int)):sm W l=2∧hk W l=ah.zero∧o8 W l= []:=by
 have e:sm W l=2:=by unfold sm;rw [aRL (by omega),aRP (by omega)]
 unfold hk o8;rw [e];exact ⟨Z,Z,Z⟩
theorem Rk {W:ah} {l:List dm} (h:W.bo=0) (az:(l.length:Int)≤200):sm W l=0∧hk W l=(W.l6 l).1∧o8 W l=(W.l6 l).2:=by
 have e:sm W l=0:=by unfold sm;rw [aRL (by omega),aRL (by omega)]
 unfold hk o8;rw [e];exact ⟨Z,Z,Z⟩
noncomputable def akr (g:dm):Nat→ah→Nat
 | 0,_=>0
 | n+1,W=>if (W.l6 [g]).2.length=0 then 0 else akr g n (W.l6 [g]).1+1
noncomputable def aks (g:dm):Nat→ah→ah
 | 0,W=>W
 | n+1,W=>if (W.l6 [g]).2.length=0 then (W.l6 [g]).1 else aks g n (W.l6 [g]).1
def akq (W:ah) (id n:Int):Int:=if W.bo≠0 then W.bo else if n<0∨200<n then 1 else if aml W (hh id)=false then 7 else 0
noncomputable def aPe (W:ah) (id:Int) (bn:ax) (n:Int):ah:=if akq W id n≠0 then ah.zero else aks ⟨id,⟨bn.x,bn.y⟩⟩ n.toNat W
noncomputable def aPd (W:ah) (id:Int) (bn:ax) (n:Int):Nat:=if akq W id n≠0 then 0 else akr ⟨id,⟨bn.x,bn.y⟩⟩ n.toNat W
theorem az3 (a:ah.b5) (W:ah) (w:World) (bV:ah.Has w a W):
  Calls prog 97 #[.agg ((ah.cells a W).toArray)] w (λ e w'=>∃ a':ah.b5,e= .returned (.agg (ah.cells a' W).toArray)∧bq w' w.heap.size a' W∧Ext w w'):=by
 refine ch (n:=26) func97 Z Z Z ?_;refine aj<|cB Z Z Z Z λ cv bJ a7 ee ab=> ?_;have:=a7.size;have bg:=γ (Ext.bF w) a7;have ei:=ab.lt;refine al Z pQ Z Z λ eK cw bl ie ag=> ?_;have:=bl.size;have bQ:=γ bg bl;have h3:=ag.lt;refine ai<|aj<|J (av s4 Z)<|J (av AR Z)<| ?_;have ab:=ab.later bl;refine J (ao Z (ab.one gL Z))<|ca AS Z Z ((vO _ _ W.field.aZ _ (bV.P.keep bQ)).mono ?_);rintro e vd ⟨mA,mK,rfl,e5,awV,iB⟩;refine ⟨_,Z, ?_⟩;have:=iB.size;have ik:=γ bQ iB;have m_:=λ q I=>(e5.lt q I).2;have mR:=λ q I=>(e5.lt q I).1;refine J (av s4 Z)<|J (av AR Z)<| ?_;have ab:=ab.later iB;refine st (new:= [.int .i64 W.field.wide, .int .i64 W.field.high, .slice mA ((W.field.aZ).length) mK, .slice a.B W.aW.length a.b, .slice a.S W.bk.length a.s, .slice a.M W.br.length a.m, .slice a.T W.ak.length a.t, .int .i64 W.next, .int .i64 W.now]) Z Z ab Z xw Z Z Z λ BH p8 ab=> ?_;have:=p8.size;have ma:=Ext.mod ik p8 bu;refine ai<|aA<| ?_;refine rd [(1,0),(2,2),(4,0),(5,2),(7,3),(9,3)] [0,1,3,4,2,6,5,7,8,9] (by kernel_rfl) (by kernel_rfl) ?_;refine au Z (λ _=>av uH Z)<|bH Z (λ _ x=>ao Z ((ab.later x).one zd Z))<|au Z (λ _=>av xx Z)<|bH Z (λ _ x=>ao Z ((ab.later x).one gL Z))<|gm Z Z Z λ tL cx Q hK=>ca Vd Z Z ((Pj _ _ W.aW _ (bV.B.keep (γ ma cx))).mono ?_);rintro e BK ⟨ua,uy,rfl,fG,awW,fQ⟩;refine ⟨_,Z,hK _ _ ⟨γ cx fQ, ?_⟩⟩;have:=cx.size;have jI:=γ ma cx;have:=fQ.size;have ph:=γ jI fQ;have zQ:=λ q I=>(fG.lt q I).2;have uS:=λ q I=>(fG.lt q I).1;refine au Z (λ _=>av uH Z)<|gm Z Z Z λ F9 k0 Q hK=>ca AS Z Z ((vO _ _ W.bk _ (bV.S.keep (γ ph k0))).mono ?_);rintro e wN ⟨wV,xl,rfl,fH,awX,eS⟩;refine ⟨_,Z,hK _ _ ⟨γ k0 eS, ?_⟩⟩;have:=k0.size;have rk:=γ ph k0;have:=eS.size;have mb:=γ rk eS;have DA:=λ q I=>(fH.lt q I).2;have si:=λ q I=>(fH.lt q I).1;have ab:=ab.later (γ cx (γ fQ (γ k0 eS)));refine eP Z Z Z λ yl eT Q hK=>st (new:= [.int .i64 W.field.wide, .int .i64 W.field.high, .slice mA ((W.field.aZ).length) mK, .slice ua ((W.aW).length) uy, .slice a.S W.bk.length a.s, .slice a.M W.br.length a.m, .slice a.T W.ak.length a.t, .int .i64 W.next, .int .i64 W.now]) Z Z (ab.later eT) Z Ve Z Z Z λ I9 hz ab=>hK _ _ ?_;have:=eT.size;have jX:=γ mb eT;have:=hz.size;have vt:=Ext.mod jX hz bu;refine au Z (λ _=>av xx Z)<|eP Z Z Z λ BN eU Q hK=>st (new:= [.int .i64 W.field.wide, .int .i64 W.field.high, .slice mA ((W.field.aZ).length) mK, .slice ua ((W.aW).length) uy, .slice wV ((W.bk).length) xl, .slice a.M W.br.length a.m, .slice a.T W.ak.length a.t, .int .i64 W.next, .int .i64 W.now]) Z Z (ab.later eU) Z xw Z Z Z λ F' gO ab=>hK _ _ ?_;have:=eU.size;have lN:=γ vt eU;have:=gO.size;have oD:=Ext.mod lN gO bu;refine fn λ qk ek=> ?_;have:=ek.size;have hH:=γ oD ek;refine aV<|aA<| ?_;refine rd [(1,0),(2,2),(4,0),(5,2),(7,3),(9,3)] [0,1,3,4,2,6,5,7,8,9] (by kernel_rfl) (by kernel_rfl) ?_;refine au Z (λ _=>av CO Z)<| ?_;have ab:=ab.later ek;refine bH Z (λ _ x=>ao Z ((ab.later x).one gL Z))<|au Z (λ _=>av kI Z)<|bH Z (λ _ x=>ao Z ((ab.later x).one mM Z))<|gm Z Z Z λ Nr h7 Q hK=>ca AS Z Z ((vO _ _ W.br _ (bV.M.keep (γ hH h7))).mono ?_);rintro e Jb ⟨z_,qK,rfl,iW,awY,iT⟩;refine ⟨_,Z,hK _ _ ⟨γ h7 iT, ?_⟩⟩;have:=h7.size;have yA:=γ hH h7;have:=iT.size;have qy:=γ yA iT;have Sh:=λ q I=>(iW.lt q I).2;have tr:=λ q I=>(iW.lt q I).1;refine au Z (λ _=>av CO Z)<|gm Z Z Z λ ZD hG Q hK=>ca Vf Z Z ((Pk _ _ W.ak _ (bV.T.keep (γ qy hG))).mono ?_);rintro e Jd ⟨DY,Cy,rfl,iX,awZ,gI⟩;refine ⟨_,Z,hK _ _ ⟨γ hG gI, ?_⟩⟩;have:=hG.size;have Gr:=γ qy hG;have:=gI.size;have sJ:=γ Gr gI;have sx:=λ q I=>(iX.lt q I).2;have sj:=λ q I=>(iX.lt q I).1;have ab:=ab.later (γ h7 (γ iT (γ hG gI)));refine eP Z Z Z λ amc oC Q hK=>st (new:= [.int .i64 W.field.wide, .int .i64 W.field.high, .slice mA ((W.field.aZ).length) mK, .slice ua ((W.aW).length) uy, .slice wV ((W.bk).length) xl, .slice z_ ((W.br).length) qK, .slice a.T W.ak.length a.t, .int .i64 W.next, .int .i64 W.now]) Z Z (ab.later oC) Z xw Z Z Z λ DG gT ab=>hK _ _ ?_;have:=oC.size;have NS:=γ sJ oC;have:=gT.size;have qz:=Ext.mod NS gT bu;refine au Z (λ _=>av kI Z)<|eP Z Z Z λ SC eL Q hK=>st (new:= [.int .i64 W.field.wide, .int .i64 W.field.high, .slice mA ((W.field.aZ).length) mK, .slice ua ((W.aW).length) uy, .slice wV ((W.bk).length) xl, .slice z_ ((W.br).length) qK, .slice DY ((W.ak).length) Cy, .int .i64 W.next, .int .i64 W.now]) Z Z (ab.later eL) Z KH Z Z Z λ Gb p' ab=>hK _ _ ?_;have:=eL.size;have z6:=γ qz eL;have:=p'.size;have kf:=Ext.mod z6 p' bu;refine fn λ SG gu=> ?_;have:=gu.size;have B2:=γ kf gu;refine aV<|aj<| ?_;have ab:=ab.later gu;refine J (ao Z (ab.all du cf))<| ?_;have ag:=ag.later iB;have ag:=ag.mod p8 aO;have ag:=ag.later (γ cx (γ fQ (γ k0 (γ eS eT))));have ag:=ag.mod hz aO;have ag:=ag.later eU;have ag:=ag.mod gO aO;have ag:=ag.later (γ ek (γ h7 (γ iT (γ hG (γ gI oC)))));have ag:=ag.mod gT aO;have ag:=ag.later eL;have ag:=ag.mod p' aO;have ag:=ag.later gu;refine st (new:= [.int .i64 W.field.wide, .int .i64 W.field.high, .slice mA ((W.field.aZ).length) mK, .slice ua ((W.aW).length) uy, .slice wV ((W.bk).length) xl, .slice z_ ((W.br).length) qK, .slice DY ((W.ak).length) Cy, .int .i64 W.next, .int .i64 W.now]) Z Z ag Z cf Z Z Z λ SH mV ag=> ?_;have:=mV.size;have B3:=Ext.mod B2 mV bu;refine ai<|rt<|bb (.cell Z (ag.all du cf) .nil)<| ?_;have e5:=e5.mod p8 (bA mR);have e5:=e5.later (γ cx (γ fQ (γ k0 (γ eS eT))));have e5:=e5.mod hz (bA mR);have e5:=e5.later eU;have e5:=e5.mod gO (bA mR);have e5:=e5.later (γ ek (γ h7 (γ iT (γ hG (γ gI oC)))));have e5:=e5.mod gT (bA mR);have e5:=e5.later eL;have e5:=e5.mod p' (bA mR);have e5:=e5.later gu;have e5:=e5.mod mV (bA mR);have fG:=fG.later (γ k0 (γ eS eT));have fG:=fG.mod hz (bA uS);have fG:=fG.later eU;have fG:=fG.mod gO (bA uS);have fG:=fG.later (γ ek (γ h7 (γ iT (γ hG (γ gI oC)))));have fG:=fG.mod gT (bA uS);have fG:=fG.later eL;have fG:=fG.mod p' (bA uS);have fG:=fG.later gu;have fG:=fG.mod mV (bA uS);have fH:=fH.later eT;have fH:=fH.mod hz (bA si);have fH:=fH.later eU;have fH:=fH.mod gO (bA si);have fH:=fH.later (γ ek (γ h7 (γ iT (γ hG (γ gI oC)))));have fH:=fH.mod gT (bA si);have fH:=fH.later eL;have fH:=fH.mod p' (bA si);have fH:=fH.later gu;have fH:=fH.mod mV (bA si);have iW:=iW.later (γ hG (γ gI oC));have iW:=iW.mod gT (bA tr);have iW:=iW.later eL;have iW:=iW.mod p' (bA tr);have iW:=iW.later gu;have iW:=iW.mod mV (bA tr);have iX:=iX.later oC;have iX:=iX.mod gT (bA sj);have iX:=iX.later eL;have iX:=iX.mod p' (bA sj);have iX:=iX.later gu;have iX:=iX.mod mV (bA sj);have hR:=bq.Yn (aC:=w.heap.size) (e5.down (by omega)) (fG.down (by omega)) (fH.down (by omega)) (iW.down (by omega)) (iX.down (by omega)) (λ q τ aa=>by exfalso;(have:=uS q τ;(have:=m_ q aa;omega))) (λ q τ aa=>by exfalso;(have:=si q τ;(have:=m_ q aa;omega))) (λ q τ aa=>by exfalso;(have:=si q τ;(have:=zQ q aa;omega))) (λ q τ aa=>by exfalso;(have:=tr q τ;(have:=m_ q aa;omega))) (λ q τ aa=>by exfalso;(have:=tr q τ;(have:=zQ q aa;omega))) (λ q τ aa=>by exfalso;(have:=tr q τ;(have:=DA q aa;omega))) (λ q τ aa=>by exfalso;(have:=sj q τ;(have:=m_ q aa;omega))) (λ q τ aa=>by exfalso;(have:=sj q τ;(have:=zQ q aa;omega))) (λ q τ aa=>by exfalso;(have:=sj q τ;(have:=DA q aa;omega))) (λ q τ aa=>by exfalso;(have:=sj q τ;(have:=Sh q aa;omega))) bV.nums;exact ⟨⟨mA,ua,wV,z_,DY,mK,uy,xl,qK,Cy⟩,Z,hR,B3⟩
theorem az5 (a:ah.b5) (W:ah) (A:Option Addr) (c:Nat) (l:List dm) (w:World) (bV:ah.Has w a W) (az:dm.rep.aJ 24 w A c l):
  Calls prog 62 #[.agg ((ah.cells a W).toArray), .slice A l.length c] w (λ e w'=>∃ a' bG b4,e= .returned (.tuple #[.agg (ah.cells a' (hk W l)).toArray, .slice bG (o8 W l).length b4, .int .i64 (sm W l)])∧bq w' w.heap.size a' (hk W l)∧bP.aD 3 8 w' w.heap.size (κ.ae bG) bG b4 (o8 W l)∧(∀ q∈κ.ae bG,q∉bq.bX a')∧Ext w w'):=by
 refine ch (n:=26) func62 Z Z Z ?_;refine aj<|cB Z Z Z Z λ cv bJ a7 ee ab=> ?_;have:=a7.size;have bg:=γ (Ext.bF w) a7;have ei:=ab.lt;refine al Z pQ Z Z λ eK cw bl ie ag=> ?_;have:=bl.size;have bQ:=γ bg bl;have h3:=ag.lt;refine va Z<|va Z<|ai<|aA<|aj<| ?_;have ab:=ab.later bl;refine J (ao Z (ab.all du cf))<|ca Hm Z Z ((CA a W _ (bV.keep bQ)).mono ?_);rintro e h6 ⟨rfl,gH⟩;refine ⟨_,Z, ?_⟩;have:=gH.size;have df:=γ bQ gH;refine va Z<|ai<|aj<|vm Z<|J (bne Z Z)<|ai<| ?_;refine e1 Z (λ lW=> ?_) (λ lW=> ?_)
 ·refine aj<|J (v:= .agg #[.int .i64 0, .int .i64 0, .slice none 0 0, .slice none 0 0, .slice none 0 0, .slice none 0 0, .slice none 0 0, .int .i64 0, .int .i64 0]) (cK Z (by kernel_rfl))<|vm Z<| ?_;have ag:=ag.later gH;refine st (new:= [.int .i64 0, .int .i64 0, .slice none 0 0, .slice none 0 0, .slice none 0 0, .slice none 0 0, .slice none 0 0, .int .i64 0, .int .i64 0]) Z Z ag Z cf Z Z Z λ F7 mT ag=> ?_;have:=mT.size;have sF:=Ext.mod df mT bu;refine va Z<|va Z<|ai<|rt<|bT<|bb (.cell Z (ag.all du cf) (.tmp Z (.tmp Z .nil)))<| ?_;obtain ⟨a_,bj,cV⟩:=ajf (l:=l) lW;exact ⟨⟨none,none,none,none,none,0,0,0,0,0⟩,none,0,by rw [a_,bj,cV];rfl,by rw [bj];exact bq.zero _ _,by rw [cV];exact κ.aD.nil _,λ q I=>by simp [κ.ae] at I,sF⟩
 ·have bB:=Good.Bx lW;have Fg:=bB.dZ;refine bt<|aA<|aj<|vm Z<|J (cA underlying124 Z)<|J (iw Z Z)<|ai<| ?_;refine eg Z (λ uK=> ?_) (λ uK=> ?_)
  ·refine aj<|J (v:= .agg #[.int .i64 0, .int .i64 0, .slice none 0 0, .slice none 0 0, .slice none 0 0, .slice none 0 0, .slice none 0 0, .int .i64 0, .int .i64 0]) (cK Z (by kernel_rfl))<| ?_;have ag:=ag.later gH;refine st (new:= [.int .i64 0, .int .i64 0, .slice none 0 0, .slice none 0 0, .slice none 0 0, .slice none 0 0, .slice none 0 0, .int .i64 0, .int .i64 0]) Z Z ag Z cf Z Z Z λ ve x0 ag=> ?_;have:=x0.size;have lM:=Ext.mod df x0 bu;refine va Z<|va Z<|ai<|rt<|bT<|bb (.cell Z (ag.all du cf) (.tmp Z (.tmp Z .nil)))<| ?_;obtain ⟨a_,bj,cV⟩:=ajg (l:=l) lW (by omega);exact ⟨⟨none,none,none,none,none,0,0,0,0,0⟩,none,0,by rw [a_,bj,cV];rfl,by rw [bj];exact bq.zero _ _,by rw [cV];exact κ.aD.nil _,λ q I=>by simp [κ.ae] at I,lM⟩
  ·refine bt<|aj<| ?_;have ab:=ab.later gH;refine J (ao Z (ab.all du cf))<|ca ar8 Z Z ((az3 a W _ (bV.keep df)).mono ?_);rintro e tN ⟨a28,rfl,JQ,dc⟩;refine ⟨_,Z, ?_⟩;have:=dc.size;have iG:=γ df dc;have Se:=λ q I=>(JQ.lt q I).2;have Ib:=λ q I=>(JQ.lt q I).1;have ab:=ab.later dc;refine st Z Z ab Z cf Z Z Z λ F9 j' ab=> ?_;have:=j'.size;have rk:=Ext.mod iG j' bu;refine ai<|aj<|J (ao Z (ab.all du cf))<|vm Z<| ?_;have JQ:=JQ.mod j' (bA Ib);refine ca ar9 Z Z ((az6 _ a28 W _ _ l _ JQ (az.keep rk) (λ aH q I Φ=>by have τ:=az.azz (by decide) aH q I;have aa:=Ib q (rR Φ);omega) (by omega)).mono ?_);rintro e Nk ⟨amL,apI,rfl,JZ,Ot,Bq⟩;refine ⟨_,Z, ?_⟩;have:=Bq.size;have yx:=Ext.mod rk Bq (λ q I=>by have bd:=Ib q (rR I);omega);rw [aDu a28 W l] at ab;have aD4:=λ q I=>(JZ.lt q I).2;have XZ:=λ q I=>(JZ.lt q I).1;have aQa:=λ q I=>(Ot.lt q I).2;have aKv:=Ze W l;refine va Z<|ai<|aj<| ?_;have uC:∀ q∈κ.ae a28.T,q=bJ→False:=λ q I Φ=>by (have:=Ib q (rR I);omega)
   have ab:=ab.mod Bq (λ I=>uC _ I rfl);refine J (ao Z (ab.all du cf))<|vm Z<| ?_;have ag:=ag.later (γ gH dc);have ag:=ag.mod j' aO;have pN:∀ q∈κ.ae a28.T,q=cw→False:=λ q I Φ=>by (have:=Ib q (rR I);omega)
   have ag:=ag.mod Bq (λ I=>pN _ I rfl);refine st Z Z ag Z cf Z Z Z λ Sz kn ag=> ?_;have:=kn.size;have vu:=Ext.mod yx kn bu;refine va Z<|va Z<|ai<|rt<|bb (.cell Z (ag.all du cf) (.tmp Z (.tmp Z .nil)))<| ?_;have Ot:=Ot.mod kn (bA Ib);have JZ:=JZ.mod kn (bA XZ);obtain ⟨a_,bj,cV⟩:=Rk (l:=l) lW (by omega);exact ⟨a28,amL,apI,by rw [a_,bj,cV];rfl,by rw [bj];exact Ot.down (by omega),by rw [cV];exact JZ.down (by omega),λ q I hf=>by (have:=XZ q I;(have:=Se q hf;omega)),vu⟩
end
section
structure cn where
 kind:Int
 aQ:Int
 spot:ax
 what:Int
 deriving DecidableEq,Inhabited
namespace cn
def cells (a:cn):List Value:= [.int .i64 (a.kind), .int .i64 (a.aQ), .int .i64 (a.spot.x), .int .i64 (a.spot.y), .int .i64 (a.what)]
def ok (a:cn):Prop:=(Lit.int .i64 a.kind).wf=true∧(Lit.int .i64 a.aQ).wf=true∧(Lit.int .i64 a.spot.x).wf=true∧(Lit.int .i64 a.spot.y).wf=true∧(Lit.int .i64 a.what).wf=true
def raw (j:Nat) (u:Value):Prop:=match j with
 | 0=>∃ n:Int,u= .int .i64 n
 | 1=>∃ n:Int,u= .int .i64 n
 | 2=>∃ n:Int,u= .int .i64 n
 | 3=>∃ n:Int,u= .int .i64 n
 | 4=>∃ n:Int,u= .int .i64 n
 | _=>True
theorem rJ (a:cn):∀ (j:Nat) u,a.cells[j]? =some u→raw j u:=by
 intro j u hu
 match j,hu with
 | 0,hu=>exact ⟨_,(aRA hu).symm⟩
 | 1,hu=>exact ⟨_,(aRA hu).symm⟩
 | 2,hu=>exact ⟨_,(aRA hu).symm⟩
 | 3,hu=>exact ⟨_,(aRA hu).symm⟩
 | 4,hu=>exact ⟨_,(aRA hu).symm⟩
 | j+5,hu=>exact trivial
theorem rI (a:cn):∀ u∈a.cells,u.oneCell'=true:=by
 intro u hu;unfold cells at hu;simp only [aRW,aS3,aTR] at hu;rcases hu with rfl | rfl | rfl | rfl | rfl<;>rfl
def rep:κ cn:=κ.flat 5 cells ok raw (λ _=>rfl) rI rJ
def zero:Value:= .agg #[.int .i64 0, .int .i64 0, .int .i64 0, .int .i64 0, .int .i64 0]
theorem h8:∀ (j:Nat) u,zero.cells[j]? =some u→rep.raw j u:=by
 intro j u hu;have hu:(#[(.int .i64 0:Value),(.int .i64 0:Value),(.int .i64 0:Value),(.int .i64 0:Value),(.int .i64 0:Value)]:Array Value)[j]? =some u:=hu
 match j,hu with
 | 0,hu=>exact ⟨_,(aRA hu).symm⟩
 | 1,hu=>exact ⟨_,(aRA hu).symm⟩
 | 2,hu=>exact ⟨_,(aRA hu).symm⟩
 | 3,hu=>exact ⟨_,(aRA hu).symm⟩
 | 4,hu=>exact ⟨_,(aRA hu).symm⟩
 | j+5,hu=>cases hu
theorem info:(prog.info? 178).map (λ i=>(i.zero,i.size,i.bytes))=some (some zero,5,40):=by kernel_rfl
def sh:gK:=(.cons (.int .i64) (.cons (.int .i64) (.cons (.cons (.int .i64) (.cons (.int .i64) .nil)) (.cons (.int .i64) .nil))))
end cn
theorem avM {w:World} {cs:List Value} {a:cn} (h:cn.rep.has w cs a):cs=a.cells:=aTI (show cs=a.cells∧a.ok from h)
end
section
def beside (a b:ax):Bool:=cO b.x (a.x - 1) (a.x+1) && cO b.y (a.y - 1) (a.y+1)
namespace ah
def place (W:ah) (c:ax):Nat:=(c.y * W.field.wide+c.x).toNat
def qJ (t:bf) (n:Int):bf:= {t with load:=t.load+n}
def nK (W:ah) (d:cn):Option ah :=
 match W.ak.findIdx? (hh d.aQ) with
 | none=>none
 | some k =>
  let t:=W.ak.getD k default
  let m:=W.br.getD (W.place d.spot) 0
  if t.kind == 1 && decide (t.load<5) && beside t.spot d.spot && W.field.fk d.spot && m != 0 then
   some {W with br:=W.br.set (W.place d.spot) (m - 1),ak:=W.ak.set k (qJ t 1)}
  else none
def drop (W:ah) (d:cn):Option ah :=
 match W.ak.findIdx? (hh d.aQ) with
 | none=>none
 | some k =>
  let t:=W.ak.getD k default
  let o:=t.owner.toNat
  let s:=W.bk.getD o 0
  let n:=min t.load (1000000 - s)
  if t.load != 0 && beside (W.aW.getD o default) t.spot && decide (0<n) then
   some {W with bk:=W.bk.set o (s+n),ak:=W.ak.set k (qJ t (-n))}
  else none
def around (c:ax):List ax :=
 [c,⟨c.x - 1,c.y - 1⟩,⟨c.x,c.y - 1⟩,⟨c.x+1,c.y - 1⟩,⟨c.x - 1,c.y⟩,⟨c.x,c.y⟩,⟨c.x+1,c.y⟩,⟨c.x - 1,c.y+1⟩,⟨c.x,c.y+1⟩,⟨c.x+1,c.y+1⟩]
def Dk (W:ah) (c:ax):Bool:=W.field.ground c && !W.ak.any (qY c)
def free (W:ah) (c:ax):Option ax:=(around c).find? W.Dk
def r5 (W:ah) (d:cn):Option ah :=
 let s:=W.bk.getD d.aQ.toNat 0
 if cO d.aQ 0 ((W.aW.length:Int) - 1) && cO d.what 1 2 && decide (kU d.what≤s) && decide (W.ak.length<100) && decide (W.next<1000000) then
  match W.free (W.aW.getD d.aQ.toNat default) with
  | none=>none
  | some c=>some {W with ak:=W.ak++ [⟨W.next,d.aQ,d.what,c,j_ d.what,0⟩],next:=W.next+1,bk:=W.bk.set d.aQ.toNat (s - kU d.what)}
 else none
def lz (W:ah) (d:cn):Option ah:=if d.kind=1 then W.nK d else if d.kind=2 then W.drop d else if d.kind=3 then W.r5 d else none
def h0 (W:ah):List cn→ah×List Bool
 | []=>(W, [])
 | d::l=>match W.lz d with
  | some V=>((V.h0 l).1,true::(V.h0 l).2)
  | none=>((W.h0 l).1,false::(W.h0 l).2)
end ah
theorem Hr {l:List bf} {id:Int} {k:Nat} (h:l.findIdx? (hh id)=some k):∃ t,l[k]? =some t∧t.id=id∧l.getD k default=t:=by
 obtain ⟨τ,aa,_⟩:=aT8.1 h;exact ⟨l[k],aRD τ,by simpa [hh] using aa,by rw [aRB,aRD τ];rfl⟩
theorem aDf {W V:ah} {k:Nat} {t u:bf} (s8:V.ak=W.ak.set k u) (aG:W.ak[k]? =some t) (hs:u.spot=t.spot) (i:Nat):V.jg i=W.jg i:=by
 unfold ah.jg;rw [s8,List.take_set,aSV];by_cases ob:k<i
 ·have τ:((W.ak.take i).map (·.spot))[k]? =some t.spot:=by rw [aRU,aSl,aRP ob,aG];rfl
  obtain ⟨aa,aw⟩:=aRC.1 τ;rw [hs,← aw];exact aTn _
 ·rw [aVV (by rw [aSz,aRE];omega)]
theorem ay0 {W V:ah} {k:Nat} {t u:bf} (s8:V.ak=W.ak.set k u) (aG:W.ak[k]? =some t) (hs:u.id=t.id) (i:Nat):V.jO i=W.jO i:=by
 unfold ah.jO;by_cases aq:i=0
 ·rw [aRP aq,aRP aq]
 ·rw [aRL aq,aRL aq,s8,aRB,aRB];by_cases ar:k=i - 1
  ·subst ar;rw [aRY (aRC.1 aG).1,aG];exact hs
  ·rw [aR4 ar]
theorem T8 {W V:ah} {k:Nat} {t u:bf} (s8:V.ak=W.ak.set k u) (aG:W.ak[k]? =some t) {i:Nat} {x:bf} (hx:V.ak[i]? =some x):(i=k∧x=u)∨(i≠k∧W.ak[i]? =some x):=by
 rw [s8] at hx;by_cases ar:k=i
 ·subst ar;rw [aRY (aRC.1 aG).1] at hx;exact .inl ⟨Z,(aRA hx).symm⟩
 ·rw [aR4 ar] at hx;exact .inr ⟨aUi ar,hx⟩
theorem Good.turned {W V:ah} (h:Good W) {k:Nat} {t:bf} {n:Int} (aG:W.ak[k]? =some t) (s8:V.ak=W.ak.set k (ah.qJ t n)) (az:0≤t.load+n∧t.load+n≤ah.Bv t.kind)
  (hf:V.field=W.field) (Φ:V.aW=W.aW) (hn:V.next=W.next) (hw:V.now=W.now)
  (tj:V.bk.length=W.bk.length) (hs:∀ (i:Nat) s,V.bk[i]? =some s→0≤s∧s≤1000000)
  (Fc:V.br.length=W.br.length) (hm:∀ (i:Nat) m,V.br[i]? =some m→0≤m∧m≤1000000∧(m≤0∨W.field.aZ.getD i 0=3)):Good V:=by
 have τ:=h.ak k t aG;have hlen:V.ak.length=W.ak.length:=by rw [s8,aRK]
 refine ⟨by rw [hf];exact h.field,by rw [Φ];exact h.kq,by rw [hlen];exact h.dZ,by rw [tj,Φ];exact h.sl, ?_,hs,by rw [Fc,hf];exact h.x3,by rw [hf];exact hm,λ i x hx=> ?_,λ i x hx=> ?_,λ i x hx=> ?_,by rw [hn];exact h.next,by rw [hw];exact h.now⟩
 ·rw [Φ,hf];exact h.aW
 ·rw [hf,Φ];rcases T8 s8 aG hx with ⟨rfl,rfl⟩ | ⟨_,hx⟩
  ·exact ⟨τ.kind,τ.owner,τ.ground,τ.c0,az⟩
  ·exact h.ak i x hx
 ·rw [ay0 s8 aG rfl,hn];rcases T8 s8 aG hx with ⟨rfl,rfl⟩ | ⟨_,hx⟩
  ·exact h.ids i t aG
  ·exact h.ids i x hx
 ·rw [aDf s8 aG rfl];rcases T8 s8 aG hx with ⟨rfl,rfl⟩ | ⟨_,hx⟩
  ·exact h.jg i t aG
  ·exact h.jg i x hx
theorem azV {W V:ah} {d:cn} (h:W.nK d=some V):∃ (k:Nat) (t:bf),W.ak.findIdx? (hh d.aQ)=some k∧W.ak[k]? =some t∧t.id=d.aQ∧t.kind=1∧t.load<5∧beside t.spot d.spot=true∧W.field.fk d.spot=true∧W.br.getD (W.place d.spot) 0≠0∧
  V= {W with br:=W.br.set (W.place d.spot) (W.br.getD (W.place d.spot) 0 - 1),ak:=W.ak.set k (ah.qJ t 1)}:=by
 unfold ah.nK at h;cases hf:W.ak.findIdx? (hh d.aQ) with
 | none=>rw [hf] at h;cases h
 | some k =>
  rw [hf] at h;obtain ⟨t,aG,hid,aK⟩:=Hr hf;simp only [aK] at h;split at h
  ·rename_i hc
   simp only [aRI,aR6,aUE,aSC] at hc;exact ⟨k,t,Z,aG,hid,hc.1.1.1.1,hc.1.1.1.2,hc.1.1.2,hc.1.2,hc.2,(aRA h).symm⟩
  ·cases h
theorem arT {W V:ah} {d:cn} (h:W.drop d=some V):∃ (k:Nat) (t:bf) (n:Int),W.ak.findIdx? (hh d.aQ)=some k∧W.ak[k]? =some t∧t.id=d.aQ∧t.load≠0∧beside (W.aW.getD t.owner.toNat default) t.spot=true∧n=min t.load (1000000 - W.bk.getD t.owner.toNat 0)∧0<n∧
  V= {W with bk:=W.bk.set t.owner.toNat (W.bk.getD t.owner.toNat 0+n),ak:=W.ak.set k (ah.qJ t (-n))}:=by
 unfold ah.drop at h;cases hf:W.ak.findIdx? (hh d.aQ) with
 | none=>rw [hf] at h;cases h
 | some k =>
  rw [hf] at h;obtain ⟨t,aG,hid,aK⟩:=Hr hf;simp only [aK] at h;split at h
  ·rename_i hc
   simp only [aRI,aR6,aUE] at hc;exact ⟨k,t,_,Z,aG,hid,hc.1.1,hc.1.2,Z,hc.2,(aRA h).symm⟩
  ·cases h
theorem awl {W V:ah} {d:cn} (h:W.r5 d=some V):∃ c:ax,W.free (W.aW.getD d.aQ.toNat default)=some c∧0≤d.aQ∧d.aQ<(W.aW.length:Int)∧(d.what=1∨d.what=2)∧ah.kU d.what≤W.bk.getD d.aQ.toNat 0∧W.ak.length<100∧W.next<1000000∧
  V= {W with ak:=W.ak++ [⟨W.next,d.aQ,d.what,c,ah.j_ d.what,0⟩],next:=W.next+1,bk:=W.bk.set d.aQ.toNat (W.bk.getD d.aQ.toNat 0 - ah.kU d.what)}:=by
 unfold ah.r5 at h;simp only at h;split at h
 ·rename_i hc
  simp only [aRI,aR6] at hc;have a:=kO hc.1.1.1.1;have b:=kO hc.1.1.1.2;split at h
  ·cases h
  ·rename_i c nz
   exact ⟨c,nz,a.1,by omega,by omega,hc.1.1.2,hc.1.2,hc.2,(aRA h).symm⟩
 ·cases h
theorem aBv (k:Int):0≤ah.kU k:=by unfold ah.kU;split<;>(try split)<;>omega
theorem Good.nK {W V:ah} {d:cn} (h:Good W) (hd:W.nK d=some V):Good V:=by
 obtain ⟨k,t,_,aG,_,ar,az,_,dp,A',rfl⟩:=azV hd;have τ:=h.ak k t aG;have W4:ah.Bv t.kind=5:=by rw [ar];rfl
 obtain ⟨i1,i2,_⟩:=aE.idx h.field dp;have bw:W.place d.spot<W.br.length:=by rw [h.x3];unfold ah.place;omega
 obtain ⟨m,hm⟩:=iN bw;have aa:=h.br _ m hm;have aK:W.br.getD (W.place d.spot) 0=m:=by rw [aRB,hm];rfl
 rw [aK] at A' ⊢;refine h.turned aG Z (by have:=τ.load;omega) Z Z Z Z Z h.bk (by simp) λ i x hx=> ?_;simp only at hx;by_cases aq:W.place d.spot=i
 ·subst aq;rw [aRY bw] at hx;obtain rfl:=aRA hx;refine ⟨by omega,by omega, ?_⟩;rcases aa.2.2 with aw | aw
  ·omega
  ·exact .inr aw
 ·rw [aR4 aq] at hx;exact h.br i x hx
theorem Good.drop {W V:ah} {d:cn} (h:Good W) (hd:W.drop d=some V):Good V:=by
 obtain ⟨k,t,n,_,aG,_,az,_,hn,agz,rfl⟩:=arT hd;have τ:=h.ak k t aG;have bw:t.owner.toNat<W.bk.length:=by rw [h.sl];have:=τ.owner;omega
 obtain ⟨s,hs⟩:=iN bw;have aa:=h.bk _ s hs;have aK:W.bk.getD t.owner.toNat 0=s:=by rw [aRB,hs];rfl
 rw [aK] at hn ⊢;refine h.turned aG Z (by have:=τ.load;omega) Z Z Z Z (by simp) (λ i x hx=> ?_) Z h.br;simp only at hx;by_cases aq:t.owner.toNat=i
 ·subst aq;rw [aRY bw] at hx;obtain rfl:=aRA hx;omega
 ·rw [aR4 aq] at hx;exact h.bk i x hx
theorem Good.r5 {W V:ah} {d:cn} (h:Good W) (hd:W.r5 d=some V):Good V:=by
 obtain ⟨c,nz,axL,lB,ar,hp,Fg,we,rfl⟩:=awl hd;have wg:=aUM nz;unfold ah.Dk at wg;rw [aRI] at wg;have pX:∀ t∈W.ak,t.spot≠c:=λ t aG he=>by
  have:=wg.2;rw [aSE,aUw] at this;exact this t aG (by simp [qY,he])
 have bw:d.aQ.toNat<W.bk.length:=by rw [h.sl];omega
 obtain ⟨s,hs⟩:=iN bw;have aa:=h.bk _ s hs;have aK:W.bk.getD d.aQ.toNat 0=s:=by rw [aRB,hs];rfl
 rw [aK] at hp ⊢;have QN:=aBv d.what;have hn:=h.next;have ag2:∀ i,i≤W.ak.length→ah.jg {W with ak:=W.ak++ [⟨W.next,d.aQ,d.what,c,ah.j_ d.what,0⟩],next:=W.next+1,bk:=W.bk.set d.aQ.toNat (s - ah.kU d.what)} i=W.jg i:=λ i aq=>by
  unfold ah.jg;simp only;rw [aVE aq]
 have QB:∀ i,i≤W.ak.length→ah.jO {W with ak:=W.ak++ [⟨W.next,d.aQ,d.what,c,ah.j_ d.what,0⟩],next:=W.next+1,bk:=W.bk.set d.aQ.toNat (s - ah.kU d.what)} i=W.jO i:=λ i aq=>by
  unfold ah.jO;simp only;by_cases aH:i=0
  ·rw [aRP aH,aRP aH]
  ·rw [aRL aH,aRL aH,aRB,aRB,aRX (by omega)]
 have fL:∀ (i:Nat) x,(W.ak++ [(⟨W.next,d.aQ,d.what,c,ah.j_ d.what,0⟩:bf)])[i]? =some x→(i<W.ak.length∧W.ak[i]? =some x)∨(i=W.ak.length∧x=⟨W.next,d.aQ,d.what,c,ah.j_ d.what,0⟩):=λ i x hx=>by
  by_cases aq:i<W.ak.length
  ·rw [aRX aq] at hx;exact .inl ⟨aq,hx⟩
  ·rw [aR0 (by omega)] at hx;have aH:i - W.ak.length=0:=by
    have:=(aRC.1 hx).1;simp at this;omega
   rw [aH] at hx;exact .inr ⟨by omega,by simpa using hx.symm⟩
 have aKr:W.jO W.ak.length<W.next∧0≤W.jO W.ak.length:=by
  by_cases aH:W.ak.length=0
  ·rw [aH];exact ⟨by show (0:Int)<_;omega,aTb _⟩
  ·obtain ⟨t,aG⟩:=iN (l:=W.ak) (i:=W.ak.length - 1) (by omega);have a1:=h.ids _ t aG;have e:W.jO W.ak.length=t.id:=by
    unfold ah.jO;rw [aRL aH,aRB,aG];rfl
   rw [e];omega
 refine ⟨h.field,h.kq,by simp;omega,by simp;exact h.sl,h.aW,λ i x hx=> ?_,h.x3,h.br,λ i x hx=> ?_,λ i x hx=> ?_,λ i x hx=> ?_,by simp only;omega,h.now⟩
 ·simp only at hx;by_cases aq:d.aQ.toNat=i
  ·subst aq;rw [aRY bw] at hx;obtain rfl:=aRA hx;omega
  ·rw [aR4 aq] at hx;exact h.bk i x hx
 ·rcases fL i x hx with ⟨_,hx⟩ | ⟨_,rfl⟩
  ·exact h.ak i x hx
  ·exact ⟨ar,⟨axL,lB⟩,wg.1,by simp only;rcases ar with h | h<;>rw [h]<;>decide,by simp only;rcases ar with h | h<;>rw [h]<;>decide⟩
 ·rcases fL i x hx with ⟨aq,hx⟩ | ⟨rfl,rfl⟩
  ·rw [QB i (by omega)];have:=h.ids i x hx;simp only;omega
  ·rw [QB _ (aRN _)];simp only;omega
 ·rcases fL i x hx with ⟨aq,hx⟩ | ⟨rfl,rfl⟩
  ·rw [ag2 i (by omega)];exact h.jg i x hx
  ·rw [ag2 _ (aRN _)];simp only;cases hc:(W.jg W.ak.length).contains c with
   | false=>rfl
   | true =>
    rw [aUV] at hc;unfold ah.jg at hc;obtain ⟨t,aG,he⟩:=aSh.1 hc;exact absurd he (pX t (aTa aG))
theorem Good.lz {W V:ah} {d:cn} (h:Good W) (hd:W.lz d=some V):Good V:=by
 unfold ah.lz at hd;split at hd
 ·exact h.nK hd
 ·split at hd
  ·exact h.drop hd
  ·split at hd
   ·exact h.r5 hd
   ·cases hd
theorem Good.h0 {W:ah} (h:Good W):∀ l:List cn,Good (W.h0 l).1:=by
 intro l;induction l generalizing W with
 | nil=>exact h
 | cons d l bD =>
  unfold ah.h0;cases hd:W.lz d with
  | none=>exact bD h
  | some V=>exact bD (h.lz hd)
end
end Go.Proofs.YtlikikpgmmkjbaaGreat
