import Derived.Test.YtooonebcoaleiaaGreatHitS
set_option linter.all false
set_option maxRecDepth 100000
set_option maxHeartbeats 4000000
open Go.RowKit
namespace Go.Proofs.YtooonebcoaleiaaGreat
open Tryz
abbrev bbt:=@Classical.byContradiction
abbrev bdn:=@bne_eq_false_iff_eq
section
variable{α:Type}{by_ c k:Nat}{w:World}{A:Option Addr}{t:bb}{l:List ed}{f:aE}
def awQ:dU prog bN 22 3 8:=dU.O (z:=J 0) (k:=1) underlying22 y5 rfl rfl GP (λ j u h=>CZ j u h)
theorem τ.aF.EO{R:τ α}{w':World}{l:List α}{F:List Nat}(h:R.aF by_ w A c l)(y:R.Y)(m:Mod F w w')(d:0<l.length->∀ q∈τ.ai A,q∉F):R.aF by_ w' A c l:=by
 obtain⟨g,i,p,s,ess,r,t,v⟩:=h;refine⟨g,i,p,s,ess,r.imp (λ es a _ h=>R.wz (R.wA (y (B:=0) h) Kx)),t,λ f=>?_⟩;obtain⟨b,o,rfl,x⟩:=v f;refine⟨b,o,Z,λ j u z=>?_⟩;have e:=x j u z;have k:b<w.heap.size:=by
  apply bbt;intro C;have:w.heap[b]? =none:=bbj GE;simp[World.cell?,this]at e
 have n:=m.block b k (d f b (by simp[τ.ai]));simp only[World.cell?]at e ⊢;rw[n];exact e
def Ub{T:List aw}(h:aw.ce.aF 16 w A c T)(k:Nat):(T.getD k default).ok:=by
 rw[baa];cases a:T[k]? with
 | none=>exact⟨GP,GP⟩
 | some t=>exact h.D1 (λ b=>(show _/\_ from b).2) t (baQ a)
def XB(h:t.ok):t.an.ok:=by
 obtain⟨c,d,e,b,a,f,g⟩:=h;exact⟨b,a⟩
def aPM{c:aw}(h:t.ok)(a:c.ok):(t.bG c).ok:=by
 obtain⟨b,d,e,j,i,f,g⟩:=h;exact⟨b,d,e,a.1,a.2,f,g⟩
def aE9{a:Int}(h:¬fU l a<0):0<=fU l a/\(fU l a).toNat<l.length:=by
 rcases aE8 l a with⟨b,_⟩|⟨k,b,c,_⟩<;>omega
def as5{T:List bb}(h:fU l (T.getD k default).id<0):tK f l T k=none:=by unfold tK;rw[bap h]
theorem aPq{T:List bb}(a:0<=fU l (T.getD k default).id)
  (h:(jd f (T.getD k default).an (l.getD (fU l (T.getD k default).id).toNat default).bG≠0\/((hW f (T.getD k default).an (l.getD (fU l (T.getD k default).id).toNat default).bG).length:Int)<2)\/0<kX T ((hW f (T.getD k default).an (l.getD (fU l (T.getD k default).id).toNat default).bG).getD 1 default)):tK f l T k=none:=by
 unfold tK;rw[ban GE];split
 .rfl
 .split
  .rfl
  .rw[bap];rcases h with(h|h)|h
   .contradiction
   .omega
   .exact h
theorem aPr{T:List bb}(b:0<=fU l (T.getD k default).id)
  (h:(jd f (T.getD k default).an (l.getD (fU l (T.getD k default).id).toNat default).bG=0/\2<=((hW f (T.getD k default).an (l.getD (fU l (T.getD k default).id).toNat default).bG).length:Int))/\kX T ((hW f (T.getD k default).an (l.getD (fU l (T.getD k default).id).toNat default).bG).getD 1 default)<=0):
  tK f l T k=some ((hW f (T.getD k default).an (l.getD (fU l (T.getD k default).id).toNat default).bG).getD 1 default):=by
 obtain⟨⟨a,c⟩,d⟩:=h;unfold tK;rw[ban GE,ban (by simpa using a),ban GE,ban GE]
def τ.aF.aKz{R:τ α}{l:List α}(h:R.aF by_ w A c l)(j:0<R.size)(a:0<l.length):∀ q∈τ.ai A,q<w.heap.size:=by
 obtain⟨k,m,n,r,ess,p,e,f⟩:=h;obtain⟨b,o,rfl,i⟩:=f a;intro q I;obtain rfl:q=b:=by simpa[τ.ai]using I
 have d:0<ess.flatten.length:=by rw[e];exact Nat.mul_pos a j
 have g:=i 0 _ (bac d);apply bbt;intro s;have:w.heap[q]? =none:=bbj GE;simp[World.cell?,this]at g
theorem aIN(b:FuncId)(cs:List Value)(p:ed->Bool)(A:Option Addr)(c:Nat)(l:List ed)(w:World)(g:ed.ce.aF 24 w A c l)(t:Enters prog b)(s:∀ x∈l,∀ w',Ext w w'->Calls prog b (([.agg #[J x.id,J x.bG.x,J x.bG.y]]:List Value)++cs).toArray w' λ e v=>e=.returned (.bool (p x))/\Ext w' v):
  Calls prog 130 #[.slice A l.length c,.func (.func b) #[] cs.toArray] w (λ e w'=>e=.returned (J (fK p l))/\Ext w w'):=by
 have G:=g.M;refine bT (n:=19) func130 Z Z Z ?_;refine ar<|aG Z<|av<|aC Z<|κ (bY underlying139 Z)<|vm Z<|ax<|bp<|?_;refine di (λ r q m=>∃ k:Nat,q=[(0,.slice A l.length c),(1,.func (.func b) #[] cs.toArray),(7,J (l.length:Int)),(8,J (k:Int))]/\r=l.length-k/\Ext w m/\(k<=l.length)/\(∀ i,i<k->p (l.getD i default)=false)) _ _ ⟨0,Z,Z,(Ext.U w),GE,λ i o=>GE⟩ (c' Z Z Z) ?_;rintro D B F ⟨k,rfl,rfl,a,E,f⟩;refine ar<|cF Z Z<|ax<|av<|?_;refine c7 Z (λ y=>?_) (λ y=>?_)
 .refine bf<|av<|bp<|aC Z<|aG Z<|aC Z<|vm Z<|vm Z<|κ (bD k underlying139 LZ Z Z ((g.be a).Y (aL k)) Z GE)<|κ (aq Z (τ.aF.G ac7 ((g.be a).O (aL k)) (cg (l:=l) (u:=default) GE) akr LZ))<|Ae t Z Z Z ((s (l.getD k default) (gZ GE) _ a).mono ?_);rintro e C ⟨rfl,z⟩;refine cR ?_;have j:=Φ a z;refine ax<|?_;refine dB Z (λ h=>?_) (λ h=>?_)
  .refine aC Z<|bc Z<|dO<|bR<|k1<|dO<|bR<|b3 Z Z<|?_;exact⟨by have e:=JN (p:=p) (l:=l) (d:=default) (k:=k) GE h f;rw[e];rfl,j⟩
  .refine dP<|bK<|cW Z Z Z<|?_;exact cM ⟨k+1,Z,Z,j,GE,pC f h⟩
 .refine cI<|cH<|cU<|cG<|a7<|ar<|bc Z<|b3 Z Z<|?_;exact⟨by have e:=JM (p:=p) (l:=l) (d:=default) (λ i o=>f i GE);rw[e];rfl,a⟩
theorem aKU(x:ed)(b k:Nat)(A:Option Addr)(c:Nat)(T:List bb)(w:World)(d:aO w b [.pointer (some ⟨fv A,j7 A+k*7,none⟩)] 218 (0,0))(h:bb.ce.aF 56 w A c T)(m:k<T.length):
  Calls prog 131 #[.agg #[J x.id,J x.bG.x,J x.bG.y],.pointer (bd b)] w (λ e w'=>e=.returned (.bool (x.id == (T.getD k default).id))/\Ext w w'):=by
 refine bT (n:=11) func131 Z Z Z ?_;refine cZ Z Z λ p j a o i=>?_;refine aG Z<|av<|?_;refine c_ [(1,0),(2,0),(5,0)] [0,1,2,3,4,5,6,7] ?_;refine aA Z (λ _=>aj aks Z)<|cr Z Z i aH Z<|?_;have d:=d.O a;refine cr Z Z d L0 Z<|aA Z (λ _=>cB Z)<|aA Z (λ _=>aj r6 Z)<|dE Z (λ _ x=>aq Z (τ.aF.C gm ((h.be (Φ a x)).O (aL k)) 0 (cg (l:=T) (u:=default) GE) Z aH))<|aA Z (λ _=>beq Z Z)<|aA Z (λ _=>fh Z)<|fn λ q g=>?_;have f:=Φ a g;refine a7<|rt<|b3 Z Z<|?_;exact⟨Z,f⟩
theorem aKT(b k:Nat)(l:List ed)(A:Option Addr)(c:Nat)(a:Option Addr)(d:Nat)(T:List bb)(w:World)(i:ed.ce.aF 24 w A c l)(j:aO w b [.pointer (some ⟨fv a,j7 a+k*7,none⟩)] 218 (0,0))(m:bb.ce.aF 56 w a d T)(f:k<T.length):
  Calls prog 130 #[.slice A l.length c,.func (.func 131) #[] #[.pointer (bd b)]] w (λ e w'=>e=.returned (J (fU l (T.getD k default).id))/\Ext w w'):=
 aIN 131 [.pointer (bd b)] (λ g=>g.id == (T.getD k default).id) A c l w i aB0 (λ x n w' h=>aKU x b k a d T w' (j.O h) (m.be h) f)
theorem aPx(w0:World)(a:ag.cS)(W:ag)(A:Option Addr)(c:Nat)(l:List ed)(w:World)(cp:bN.aF 8 w a.P a.p W.am.G)(o:bb.ce.aM 68 56 w w0.heap.size (τ.ai a.T) a.T a.t W.ah)(am:∀ q∈τ.ai a.P,q∉τ.ai a.T)(az:ed.ce.aF 24 w A c l)(MA:0<l.length->∀ q∈τ.ai A,q∉τ.ai a.T)(tu:W.ah.length<=100000):
  Calls prog 103 #[.agg ((ag.cells a W).toArray),.slice A l.length c] w (λ e w'=>∃ b' cn,e=.returned (.slice b' (W.M l).2.length cn)/\bN.aM 3 8 w' w.heap.size (τ.ai b') b' cn (W.M l).2/\bb.ce.aM 68 56 w' w0.heap.size (τ.ai a.T) a.T a.t (W.M l).1.ah/\Mod (τ.ai a.T) w w'):=by
 have qZ:=b4 o.lt;have ai:=HQ o.bv;refine bT (n:=110) func103 Z Z Z ?_;refine cZ Z Z λ ch a6 aV cY b=>?_;have dL:=(Mod.U (τ.ai a.T) w).trans (Mod.O aV);have gp:=b.lt;refine aG Z<|ar<|aeN Z λ dr z bh fl aF=>?_;have bo:=dL.trans (Mod.O bh);have aD:=mA.of_nil aF;refine aG Z<|av<|ar<|κ (aj fC Z)<|?_;have b:=b.O bh;refine a1 Z b gR Z<|κ (bY underlying26 Z)<|vm Z<|ax<|bp<|?_;have o:=o.O (Φ aV bh);refine di (λ bJ bH C=>∃ k:Nat,bH=[(1,.slice A l.length c),(2,.pointer (bd a6)),(4,.slice none 0 0),(5,.map (some z)),(17,.slice a.T W.ah.length a.t),(18,J (W.ah.length:Int)),(19,J (k:Int))]/\bJ=W.ah.length-k/\Mod (τ.ai a.T) w C/\bb.ce.aM 68 56 C w0.heap.size (τ.ai a.T) a.T a.t (W.ah)/\aO C a6 (ag.cells a W) 28 (0,0)/\mA C z (kX (W.ah.take k))/\(k<=W.ah.length)) _ _ ⟨0,Z,Z,bo,o,b,aD,GE⟩ (c' Z Z Z) ?_;rintro wm bF rH ⟨k,rfl,rfl,ib,o,b,jY,au⟩;have RV:=b4 o.lt;have wF:=b.lt;have Xf:=jY.lt;refine ar<|cF Z Z<|ax<|av<|?_;refine c7 Z (λ uy=>?_) (λ uy=>?_)
 .refine bf<|av<|bp<|ar<|κ (bD k underlying26 eg Z Z (o.bv.Y (aL k)) Z GE)<|κ (aq Z (τ.aF.G gm (o.bv.O (aL k)) (cg (l:=W.ah) (u:=default) GE) oI eg))<|cy s_ Z λ wM z_ cK bn jm=>?_;have l8:=ib.trans (Mod.O cK);refine ck Z Z jm Z eg Z Z λ pM kD jm=>?_;have iE:=l8.Y kD (λ q I=> .inr (by have:=bah.1 I;omega));refine ax<|?_;have jY:=(jY.O cK).H kD aJ;refine afm z (kX (W.ah.take k)) [(2,0),(3,0),(5,2),(7,3)] [0,1,2,3,4,5,6,7] GT GT ?_;refine vX Z Z (λ _=>fW Z) Z<|vX Z Z (λ _=>aj ld Z) Z<|GU Z Z (λ _ x=>aq Z ((jm.H x.1 aJ).Y [J ((W.ah.getD k default).an.x),J ((W.ah.getD k default).an.y)] bS bq Z)) Z<|GU Z Z (λ _ x=>Wn (p:=(W.ah.getD k default).an) (x.2 jY) (XB (ai k)) Z Z) Z<|vX Z Z (λ _=>bad Z Z (mb ((by have aa:=WZ (W.ah.take k) ((W.ah.getD k default).an);(try rw[baf]at aa);omega)))) Z<|abU Z Z Z λ H3 mP Q m=>meC (p:=(W.ah.getD k default).an) (jY.O mP) (XB (ai k)) Z Z Z λ wN aW np Y4=>m _ _ ⟨(rU.O mP).trans ⟨np,λ _=>Y4.map⟩,?_⟩;have mS:=iE.trans (Mod.O mP);have jD:=mS.Y np (λ q I=> .inr (by have:=bah.1 I;omega));have a5:=Y4.map;refine vX Z Z (λ _=>ex Z Z) Z<|abK Z Z Z λ H5 gq Q m=>abG (Y4.O gq) Z Z Z λ zr A0 YY=>m _ _ ?_;have rN:=jD.trans (Mod.O gq);have nB:=rN.Y A0 (λ q I=> .inr (by have:=bah.1 I;omega));refine abR λ NO jL=>?_;have yh:=nB.trans (Mod.O jL);refine bK<|cW Z Z Z<|?_;have o:=((((((o.O cK).H kD (bM λ q I O=>by have:=RV q I;have:=qZ q I;omega)).O mP).H np (bM λ q I O=>by have:=RV q I;have:=qZ q I;omega)).O gq).H A0 (bM λ q I O=>by have:=RV q I;have:=qZ q I;omega)).O jL;have b:=((((((b.O cK).H kD aJ).O mP).H np aJ).O gq).H A0 aJ).O jL;have YY:=YY.O jL;exact cM ⟨k+1,Z,Z,yh,o,b,(by rw[aLM GE];exact YY),GE⟩
 .refine cI<|cH<|cU<|cG<|a7<|ar<|aG Z<|av<|ar<|κ (aj fC Z)<|a1 Z b gR Z<|κ (bY underlying26 Z)<|vm Z<|ax<|bp<|?_;have nP:k=W.ah.length:=GE
  subst nP;have ay:mA rH z (kX W.ah):=by have h:=jY;rw[ba7]at h;exact h
  refine di (λ bJ bH C=>∃ k:Nat,∃ T:List bb,∃ M:List Int,∃ y:Option Addr,∃ LR:Nat,bH=[(1,.slice A l.length c),(2,.pointer (bd a6)),(4,.slice none 0 0),(5,.map (some z)),(8,.slice y M.length LR),(33,J (W.ah.length:Int)),(34,J (k:Int))]/\bJ=W.ah.length-k/\Mod (τ.ai a.T) w C/\aO C a6 (ag.cells a W) 28 (0,0)/\mA C z (kX T)/\bb.ce.aM 68 56 C w0.heap.size (τ.ai a.T) a.T a.t (T)/\bN.aM 3 8 C w.heap.size (τ.ai y) y LR (M)/\(k<=W.ah.length)/\(lJ W.am l W.ah k=(T,M))/\(T.length=W.ah.length)/\(M.length<=k)/\(∀ q∈τ.ai a.T,q=a6->False)/\(∀ q∈τ.ai a.T,q=z->False)/\(∀ q∈τ.ai y,q=a6->False)/\(∀ q∈τ.ai y,q=z->False)/\(∀ q∈τ.ai y,q∈τ.ai a.T->False)) _ _ ⟨0,W.ah,[],none,0,Z,Z,ib,b,ay,o,(τ.aM.nil _),GE,rfl,rfl,Kx,(λ q I O=>by (have:=RV q I;have:=qZ q I;omega)),(λ q I O=>by (have:=RV q I;have:=qZ q I;omega)),(λ q I O=>by (simp[τ.ai]at I)),(λ q I O=>by (simp[τ.ai]at I)),(λ q I O=>by (simp[τ.ai]at I))⟩ (c' Z Z Z) ?_;rintro J9 a2 NQ ⟨k,T,M,y,LR,rfl,rfl,tS,b,B,d,r,au,hS,ad,a9,oH,F,xt,V,qJ⟩;have aY:=b.lt;have aZ:=B.lt;have ae:=b4 d.lt;have af:=b4 r.lt;have VP:=HQ d.bv;refine ar<|cF Z Z<|ax<|av<|?_;refine c7 Z (λ P'=>?_) (λ P'=>?_)
  .refine bf<|av<|bp<|aC Z<|aG Z<|ar<|κ (aj fC Z)<|a1 Z b gR Z<|vm Z<|κ (bD k underlying26 eg Z Z (d.bv.Y (aL k)) Z GE)<|cy aB1 Z λ Fo ah kL ba f=>?_;have o4:=tS.trans (Mod.O kL);have aM:=f.lt;refine st (new:=[.pointer (some ⟨fv a.T,j7 a.T+k*7,none⟩)]) Z Z f Z aB2 Z Z Z λ NU L f=>?_;have:=L.size;have qz:=o4.Y L (λ q I=> .inr (by have:=bah.1 I;omega));refine ax<|aC Z<|κ (A3 Z Z)<|?_;have d:=(d.O kL).H L (bV ae);refine cf aB3 Z (aKT ah k l A c a.T a.t T _ (az.EO (τ.O).1 qz MA) f d.bv GE) λ NV D=>?_;have:=D.size;have pU:=qz.trans (Mod.O D);refine aG Z<|av<|aC Z<|cF Z Z<|ax<|?_;refine c7 Z (λ xA=>?_) (λ xA=>?_)
   .refine cI<|cH<|cG<|cW Z Z Z<|?_;have eF:=sK (oN kL L) D;have b:=b.H eF aJ;have B:=B.H eF aJ;have d:=d.O D;have r:=r.H eF (bV af);exact cM ⟨k+1,T,M,y,LR,Z,Z,pU,b,B,d,r,GE,Kw hS (as5 xA),ad,GE,oH,F,xt,V,qJ⟩
   .obtain⟨G7,be⟩:=aE9 xA;refine bf<|av<|?_;refine c_ [(1,0),(2,0),(5,0),(10,0),(11,2)] [0,1,2,3,4,5,6,7,8,9,10,11,12,13,14,15,16,17,18] ?_;refine aA Z (λ _=>aj lA Z)<|?_;have b:=((b.O kL).H L aJ).O D;refine dE Z (λ _ x=>aq Z ((b.O x).Y [J W.am.O,J W.am.high,.slice a.P W.am.G.length a.p] gA gB Z))<|?_;have f:=f.O D;refine cr Z Z f L0 Z<|aA Z (λ _=>cB Z)<|aA Z (λ _=>aj ld Z)<|?_;have d:=d.O D;refine dE Z (λ _ x=>aq Z (τ.aF.part gm ((d.O x).bv.O (aL k)) 3 (ds:=[J ((T.getD k default).an.x),J ((T.getD k default).an.y)]) (cg (l:=T) (u:=default) GE) Z bS bq))<|bt Z Z<|bt Z Z<|aA Z (λ _=>bD ((fU l (T.getD k default).id).toNat) underlying139 LZ Z Z ((az.EO (τ.O).1 pU MA).Y (aL ((fU l (T.getD k default).id).toNat))) GE GE)<|aA Z (λ _=>aj akt Z)<|dE Z (λ _ x=>aq Z (τ.aF.part ac7 ((az.EO (τ.O).1 (pU.trans (Mod.O x)) MA).O (aL ((fU l (T.getD k default).id).toNat))) 1 (ds:=[J ((l.getD ((fU l (T.getD k default).id).toNat) default).bG.x),J ((l.getD ((fU l (T.getD k default).id).toNat) default).bG.y)]) (cg (l:=l) (u:=default) GE) Z bS bq))<|fO Z Z Z λ NW s Q m=>ca aB4 Z Z ((aMu W.am ((T.getD k default).an) ((l.getD ((fU l (T.getD k default).id).toNat) default).bG) _ _ _ (cp.EO (τ.O).1 (pU.trans (Mod.O s)) (λ _=>am))).mono ?_);rintro e Sc ⟨a8,aX,rfl,t,G⟩;refine⟨_,Z,m _ _ ⟨Φ s G,?_⟩⟩;have:=s.size;have wW:=pU.trans (Mod.O s);have:=G.size;have BE:=wW.trans (Mod.O G);have ak:=dZ t.lt;have V3:=t.bv;refine bt Z Z<|aA Z (λ _=>ex Z Z)<|aA Z (λ _=>ex Z Z)<|aA Z (λ _=>ex Z Z)<|aA Z (λ _=>fh Z)<|aA Z (λ _=>fh Z)<|aA Z (λ _=>fh Z)<|fn λ N0 E=>?_;have:=E.size;have wX:=BE.trans (Mod.O E);refine a7<|av<|aC Z<|cV Z Z<|vm Z<|er Z Z<|aR Z (λ g=>bY underlying25 (gt g Z))<|aR Z (λ g=>blt (gt g Z) Z)<|κ (dS Z Z Z Z)<|vm Z<|er Z Z<|er Z Z<|?_;have t:=t.O E;refine aR Z (λ g=>bD 1 underlying25 bq (gt g Z) Z (t.bv.Y (aL 1 (by (try simp only[cb]at g);omega))) Z (by (try simp only[cb]at g);omega))<|aR Z (λ g=>aq (gt g Z) (τ.aF.G ng (t.bv.O (aL 1 (by (try simp only[cb]at g);omega))) (cg (l:=hW W.am ((T.getD k default).an) ((l.getD ((fU l (T.getD k default).id).toNat) default).bG)) (u:=default) (by (try simp only[cb]at g);omega)) bS bq))<|?_;have B:=((B.O kL).H L aJ).O (Φ D (Φ s (Φ G E)));refine aR Z (λ g=>Wn (p:=(hW W.am ((T.getD k default).an) ((l.getD ((fU l (T.getD k default).id).toNat) default).bG)).getD 1 default) B (Ub V3 1) (gt g Z) (gt g Z))<|aR Z (λ g=>gy (gt g Z) Z)<|κ (dS Z Z Z Z)<|ax<|?_;refine dB Z (λ Qc=>?_) (λ Qc=>?_)
    .simp only[cb]at Qc;refine cI<|cH<|cG<|cW Z Z Z<|?_;have jP:=(Φ s (Φ G E));have b:=b.O jP;have d:=d.O jP;have r:=((r.O kL).H L (bV af)).O (Φ D (Φ s (Φ G E)));exact cM ⟨k+1,T,M,y,LR,Z,Z,wX,b,B,d,r,GE,Kw hS (aPq GE Qc),ad,GE,oH,F,xt,V,qJ⟩
    .simp only[cb]at Qc;refine bf<|av<|?_;refine afm z (kX T) [(1,0),(4,0),(5,0),(7,2),(9,3)] [0,1,2,3,4,5,6,7,8,9] GT GT ?_;refine vX Z Z (λ _=>fW Z) Z<|?_;have f:=f.O (Φ s (Φ G E));refine GU Z Z (λ _ x=>aq Z ((f.H x.1 aJ).one L0 Z)) Z<|vX Z Z (λ _=>cB Z) Z<|vX Z Z (λ _=>aj ld Z) Z<|?_;have d:=d.O (Φ s (Φ G E));refine GU Z Z (λ _ x=>aq Z (τ.aF.part gm ((d.H x.1 (bM F)).bv.O (aL k)) 3 (ds:=[J ((T.getD k default).an.x),J ((T.getD k default).an.y)]) (cg (l:=T) (u:=default) GE) Z bS bq)) Z<|GU Z Z (λ _ x=>Wn (p:=(T.getD k default).an) (x.2 B) (XB (VP k)) Z Z) Z<|vX Z Z (λ _=>hi Z Z (mb ((by have aa:=WZ T ((T.getD k default).an);(try rw[baf]at aa);omega)))) Z<|abU Z Z Z λ bj K Q m=>meC (p:=(T.getD k default).an) (B.O K) (XB (VP k)) Z Z Z λ bu aT S Y2=>m _ _ ⟨(rU.O K).trans ⟨S,λ _=>Y2.map⟩,?_⟩;have:=K.size;have K8:=wX.trans (Mod.O K);have:=S.size;have N8:=K8.Y S (λ q I=> .inr (by have:=bah.1 I;omega));have a3:=Y2.map;refine vX Z Z (λ _=>ex Z Z) Z<|abK Z Z Z λ bv P Q m=>abG (Y2.O P) Z Z Z λ bz Y SV=>m _ _ ?_;have:=P.size;have Ss:=N8.trans (Mod.O P);have:=Y.size;have St:=Ss.Y Y (λ q I=> .inr (by have:=bah.1 I;omega));refine abR λ bA N=>?_;have:=N.size;have Ih:=St.trans (Mod.O N);refine a7<|av<|?_;refine c_ [(0,0),(3,0),(6,3)] [0,1,2,3,4,5,6] ?_;have f:=((((f.O K).H S aJ).O P).H Y aJ).O N;refine cr Z Z f L0 Z<|bt Z Z<|?_;have t:=((((t.O K).H S (bx ak)).O P).H Y (bx ak)).O N;refine aA Z (λ _=>bD 1 underlying25 bq Z Z (t.bv.Y (aL 1)) Z GE)<|dE Z (λ _ x=>aq Z (τ.aF.G ng ((t.O x).bv.O (aL 1)) (cg (l:=hW W.am ((T.getD k default).an) ((l.getD ((fU l (T.getD k default).id).toNat) default).bG)) (u:=default) GE) bS bq))<|aA Z (λ _=>cB Z)<|aA Z (λ _=>aj ld Z)<|?_;have d:=((((d.O K).H S (bM F)).O P).H Y (bM F)).O N;refine en Z Z Z λ X3 yb Q m=>asS (q:=(T).getD k default) (q':=(⟨((T).getD k default).id,((T).getD k default).H,((T).getD k default).O,⟨((hW W.am ((T.getD k default).an) ((l.getD ((fU l (T.getD k default).id).toNat) default).bG)).getD 1 default).x,((hW W.am ((T.getD k default).an) ((l.getD ((fU l (T.getD k default).id).toNat) default).bG)).getD 1 default).y⟩,((T).getD k default).K,((T).getD k default).load⟩:bb)) (i:=k) (j:=3) (old:=[J (((T).getD k default).id),J (((T).getD k default).H),J (((T).getD k default).O),J (((T).getD k default).an.x),J (((T).getD k default).an.y),J (((T).getD k default).K),J (((T).getD k default).load)]) (part:=[J (((hW W.am ((T.getD k default).an) ((l.getD ((fU l (T.getD k default).id).toNat) default).bG)).getD 1 default).x),J (((hW W.am ((T.getD k default).an) ((l.getD ((fU l (T.getD k default).id).toNat) default).bG)).getD 1 default).y)]) (d.O yb) τ.O (cg (l:=T) (u:=default) GE) gm Z Z Z Z Z Z (λ _=>⟨Z,(aPM (VP k) (Ub V3 1))⟩) bq λ a0 AW H=>m _ _ ?_;have:=yb.size;have wU:=Ih.trans (Mod.O yb);have:=AW.size;have aw:=wU.Y AW (λ q I=> .inl I);refine fn λ aQ KR=>?_;have:=KR.size;have an:=aw.trans (Mod.O KR);refine a7<|av<|?_;have SV:=((SV.O (Φ N yb)).H AW (λ I=>F _ I rfl)).O KR;refine afm z (wK (kX T) ((T.getD k default).an) (((kX T) ((T.getD k default).an))-1)) [(1,0),(4,0),(5,0),(7,2),(9,3)] [0,1,2,3,4,5,6,7,8,9] GT GT ?_;refine vX Z Z (λ _=>fW Z) Z<|?_;have f:=f.O yb;have al:∀ q∈τ.ai a.T,q=ah->False:=λ q I O=>by (have:=ae q I;omega)
     have f:=(f.H AW (λ I=>al _ I rfl)).O KR;refine GU Z Z (λ _ x=>aq Z ((f.H x.1 aJ).one L0 Z)) Z<|vX Z Z (λ _=>cB Z) Z<|vX Z Z (λ _=>aj ld Z) Z<|?_;have H:=H.O KR;refine GU Z Z (λ _ x=>aq Z (τ.aF.part gm ((H.H x.1 (bM F)).bv.O (aL k (by rw[bak];omega))) 3 (ds:=[J (((T.getD k default).bG ((hW W.am (T.getD k default).an (l.getD (fU l (T.getD k default).id).toNat default).bG).getD 1 default)).an.x),J (((T.getD k default).bG ((hW W.am (T.getD k default).an (l.getD (fU l (T.getD k default).id).toNat default).bG).getD 1 default)).an.y)]) (baw GE) Z bS bq)) Z<|GU Z Z (λ _ x=>Wn (p:=((T.getD k default).bG ((hW W.am (T.getD k default).an (l.getD (fU l (T.getD k default).id).toNat default).bG).getD 1 default)).an) (x.2 SV) (Ub V3 1) Z Z) Z<|vX Z Z (λ _=>bad Z Z (mb ((by have aN:=WZ T ((T.getD k default).an);have aa:=aQt (x:=((T.getD k default).an)) (v:=(((kX T) ((T.getD k default).an))-1)) (WZ T) GE GE (((T.getD k default).bG ((hW W.am (T.getD k default).an (l.getD (fU l (T.getD k default).id).toNat default).bG).getD 1 default)).an);omega)))) Z<|abU Z Z Z λ bB U Q m=>meC (p:=((T.getD k default).bG ((hW W.am (T.getD k default).an (l.getD (fU l (T.getD k default).id).toNat default).bG).getD 1 default)).an) (SV.O U) (Ub V3 1) Z Z Z λ bg aU J6 Y3=>m _ _ ⟨(rU.O U).trans ⟨J6,λ _=>Y3.map⟩,?_⟩;have:=U.size;have Sw:=an.trans (Mod.O U);have:=J6.size;have Ij:=Sw.Y J6 (λ q I=> .inr (by have:=bah.1 I;omega));have a4:=Y3.map;refine vX Z Z (λ _=>ex Z Z) Z<|abK Z Z Z λ bC KS Q m=>abG (Y3.O KS) Z Z Z λ bE CO SW=>m _ _ ?_;have:=KS.size;have Sx:=Ij.trans (Mod.O KS);have:=CO.size;have Sy:=Sx.Y CO (λ q I=> .inr (by have:=bah.1 I;omega));have aP:=SW.lt;refine abR λ aS X=>?_;have:=X.size;have ao:=Sy.trans (Mod.O X);refine a7<|rg<|vm Z<|?_;have f:=((((f.O U).H J6 aJ).O KS).H CO aJ).O X;refine a1 Z f L0 Z<|κ (cB Z)<|κ (aj r6 Z)<|?_;have H:=((((H.O U).H J6 (bM F)).O KS).H CO (bM F)).O X;refine κ (aq Z (τ.aF.C gm (H.bv.O (aL k (by rw[bak];omega))) 0 (baw GE) Z aH))<|cT (e:=3) (cs:=[J (((T.getD k default).bG ((hW W.am (T.getD k default).an (l.getD (fU l (T.getD k default).id).toNat default).bG).getD 1 default)).id)]) Z (λ _=>GT) Z λ bi bk vq bl FO=>?_;have K3:=ao.trans (Mod.O vq);have br:=FO.lt;have r:=((((((((((((r.O kL).H L (bV af)).O (Φ D (Φ s (Φ G (Φ E K))))).H S (bM V)).O P).H Y (bM V)).O (Φ N yb)).H AW qJ).O (Φ KR U)).H J6 (bM V)).O KS).H CO (bM V)).O (Φ X vq);refine ap awQ τ.O r (aO.G (R:=bN) (by_:=8) (q:=((T.getD k default).bG ((hW W.am (T.getD k default).an (l.getD (fU l (T.getD k default).id).toNat default).bG).getD 1 default)).id) FO ⟨Z,b7.2 (b7.1 (VP k).1)⟩ GP) Z Z (by simp only[baj,baq];omega) (by simp only[baj,baq];omega) GE Z λ bs aB aI Wx aE ab aK=>?_;have SB:=K3.Y Wx (λ q I=> .inr ((λ q I=>bay GE (r.lt q I).1) q I));refine va Z<|nl<|bK<|cW Z Z Z<|?_;have Mn:=RR hS (aPr GE Qc);have b:=(((((((((((b.O (Φ s (Φ G (Φ E K)))).H S aJ).O P).H Y aJ).O (Φ N yb)).H AW (λ I=>oH _ I rfl)).O (Φ KR U)).H J6 aJ).O KS).H CO aJ).O (Φ X vq)).H Wx (λ I=>xt _ I rfl);have SW:=(SW.O (Φ X vq)).H Wx (λ I=>V _ I rfl);have H:=(H.O vq).H Wx (fa qJ);exact cM ⟨k+1,(T).set k ((⟨((T).getD k default).id,((T).getD k default).H,((T).getD k default).O,⟨((hW W.am ((T.getD k default).an) ((l.getD ((fU l (T.getD k default).id).toNat) default).bG)).getD 1 default).x,((hW W.am ((T.getD k default).an) ((l.getD ((fU l (T.getD k default).id).toNat) default).bG)).getD 1 default).y⟩,((T).getD k default).K,((T).getD k default).load⟩:bb)),M++ [((T.getD k default).bG ((hW W.am (T.getD k default).an (l.getD (fU l (T.getD k default).id).toNat default).bG).getD 1 default)).id],aB,aI,Z,Z,SB,b,(by rw[aLK GE];exact SW),H,aE,GE,Mn,by rw[bak];exact ad,by rw[bam,bbo];omega,oH,F,(eh ab xt),(eh ab V),(oq ab qJ ae)⟩
  .refine cI<|cH<|cU<|cG<|a7<|aC Z<|bc Z<|b3 Z Z<|?_;have nP:k=W.ah.length:=GE
   subst nP;have bm:(W.M l).2=M:=by show(lJ _ _ _ _).2=M;rw[hS]
   have bw:(W.M l).1.ah=T:=by show(lJ _ _ _ _).1=T;rw[hS]
   exact⟨y,LR,by rw[bm];rfl,by rw[bm];exact r,by rw[bw];exact d,tS⟩
end
def aT8(W:ag)(p:bb->Bool)(w:World)(e:Ending)(w':World):Prop:=e=.returned (.tuple #[.int .i64 (aRx W p),.bool (aub W p),.int .i64 W.br])/\Below w.heap.size w w'
section
variable{w:World}{aQ:Nat}{a:ag.cS}{l:List ed}
theorem bF.aK7{b:World}{W:ag}{l:List bb}(h:bF w aQ a W)(m:Mod (τ.ai a.T) w b)(e:bb.ce.aM 68 56 b aQ (τ.ai a.T) a.T a.t l):bF b aQ a {W with ah:=l}:=by
 have f:=(bbb.1 h.apart).2.2;have d:∀ q∈τ.ai a.P++τ.ai a.B++τ.ai a.S++τ.ai a.M,q∉τ.ai a.T:=λ q I c=>f q I q c rfl;exact⟨h.P.H m (λ q I=>d q (by simp[I])),h.B.H m (λ q I=>d q (by simp[I])),h.S.H m (λ q I=>d q (by simp[I])),h.M.H m (λ q I=>d q (by simp[I])),e,h.apart,h.nums⟩
def aEH{W:ag}(h:bF w aQ a W):∀ q∈τ.ai a.P,q∉τ.ai a.T:=λ q I b=>(bbb.1 h.apart).2.2 q (by simp[I]) q b rfl
theorem aLc(g:World)(a:ag.cS)(W:ag)(A:Option Addr)(c:Nat)(l:List ed)(w:World)(d:bF w g.heap.size a W)(m:ed.ce.aF 24 w A c l)(i:0<l.length->∀ q∈τ.ai A,q∉τ.ai a.T)(n:W.ah.length<=100000):
  Calls prog 103 #[.agg (ag.cells a W).toArray,.slice A l.length c] w (λ e w'=>∃ b f,e=.returned (.slice b (W.M l).2.length f)/\bN.aM 3 8 w' w.heap.size (τ.ai b) b f (W.M l).2/\bF w' g.heap.size a (W.M l).1/\Mod (τ.ai a.T) w w'):=by
 refine(aPx g a W A c l w d.P.bv d.T (aEH d) m i n).mono ?_;rintro e w' ⟨b,f,rfl,j,k,h⟩;exact⟨b,f,Z,j,d.aK7 h k,h⟩
def as8(W:ag)(l:List ed):(W.M l).1.ah.length=W.ah.length:=(XE _).1
def aPy(a:ag.cS)(W:ag)(l:List ed):ag.cells a W=ag.cells a (W.M l).1:=by
 unfold ag.cells;rw[as8];rfl
def uT(W:ag)(l:List ed):Int:=if W.br≠0 then W.br else if 200<l.length then 2 else 0
noncomputable def rB(W:ag)(l:List ed):ag:=if uT W l≠0 then ag.zero else(W.M l).1
noncomputable def uU(W:ag)(l:List ed):List Int:=if uT W l≠0 then[]else(W.M l).2
def aqA{W:ag}(h:¬W.br=0):uT W l=W.br/\rB W l=ag.zero/\uU W l=[]:=by
 have e:uT W l=W.br:=by unfold uT;rw[bap h]
 unfold rB uU;rw[e,bap h,bap h];exact⟨Z,Z,Z⟩
def aqB{W:ag}(h:W.br=0)(a:(200:Int)<(l.length:Int)):uT W l=2/\rB W l=ag.zero/\uU W l=[]:=by
 have e:uT W l=2:=by unfold uT;rw[ban GE,bap GE]
 unfold rB uU;rw[e];exact⟨Z,Z,Z⟩
def WK{W:ag}(h:W.br=0)(a:(l.length:Int)<=200):uT W l=0/\rB W l=(W.M l).1/\uU W l=(W.M l).2:=by
 have e:uT W l=0:=by unfold uT;rw[ban GE,ban GE]
 unfold rB uU;rw[e];exact⟨Z,Z,Z⟩
noncomputable def ar2(g:ed):Nat->ag->Nat
 | 0,_=>0
 | n+1,W=>if(W.M [g]).2.length=0 then 0 else ar2 g n (W.M [g]).1+1
noncomputable def ar3(g:ed):Nat->ag->ag
 | 0,W=>W
 | n+1,W=>if(W.M [g]).2.length=0 then(W.M [g]).1 else ar3 g n (W.M [g]).1
def ar1(W:ag)(a n:Int):Int:=if W.br≠0 then W.br else if n<0\/200<n then 1 else if aub W (je a)=false then 7 else 0
noncomputable def a18(W:ag)(b:Int)(a:aw)(n:Int):ag:=if ar1 W b n≠0 then ag.zero else ar3 ⟨b,⟨a.x,a.y⟩⟩ n.toNat W
noncomputable def a16(W:ag)(b:Int)(a:aw)(n:Int):Nat:=if ar1 W b n≠0 then 0 else ar2 ⟨b,⟨a.x,a.y⟩⟩ n.toNat W
theorem aK9(a:ag.cS)(W:ag)(w:World)(B:ag.fd w a W):
  Calls prog 102 #[.agg ((ag.cells a W).toArray)] w (λ e w'=>∃ X:ag.cS,e=.returned (.agg (ag.cells X W).toArray)/\bF w' w.heap.size X W/\Ext w w'):=by
 refine bT (n:=26) func102 Z Z Z ?_;refine cZ Z Z λ ch a6 aV cY b=>?_;have gp:=b.lt;refine cy nO Z λ dr b_ V fl A=>?_;have:=V.size;have Y:=Φ aV V;have j8:=A.lt;refine ax<|ar<|κ (aj lA Z)<|κ (aj qK Z)<|?_;have b:=b.O V;refine a1 Z b et Z<|ca Au Z Z ((vN _ _ W.am.G _ (B.P.be Y)).mono ?_);rintro e nY ⟨mW,s5,rfl,L,ak,R⟩;refine cR ?_;have:=R.size;have fF:=Φ Y R;have T:=b4 L.lt;have G:=dZ L.lt;refine κ (aj lA Z)<|κ (aj qK Z)<|?_;have b:=b.O R;refine ep Z Z b Z td Z Z λ vh S b=>?_;have:=S.size;have jb:=Ext.H fF S bn;refine ax<|av<|?_;refine c_ [(1,0),(2,2),(4,0),(5,2),(7,3),(9,3)] [0,1,3,4,2,6,5,7,8,9] ?_;refine aA Z (λ _=>aj lY Z)<|cr Z Z b lZ Z<|aA Z (λ _=>aj oJ Z)<|cr Z Z b et Z<|fO Z Z Z λ ow p Q f=>ca abC Z Z ((Ue _ _ W.aT _ (B.B.be (Φ jb p))).mono ?_);rintro e zq ⟨YJ,aa,rfl,M,ai,C⟩;refine⟨_,Z,f _ _ ⟨Φ p C,?_⟩⟩;have:=p.size;have fP:=Φ jb p;have:=C.size;have mr:=Φ fP C;have U:=b4 M.lt;have H:=dZ M.lt;refine aA Z (λ _=>aj lY Z)<|fO Z Z Z λ Bo j Q f=>ca Au Z Z ((vN _ _ W.bl _ (B.S.be (Φ mr j))).mono ?_);rintro e sN ⟨YK,ab,rfl,N,ae,t⟩;refine⟨_,Z,f _ _ ⟨Φ j t,?_⟩⟩;have:=j.size;have mR:=Φ mr j;have:=t.size;have ku:=Φ mR t;have zn:=b4 N.lt;have x:=dZ N.lt;have b:=b.O (Φ p (Φ C (Φ j t)));refine en Z Z Z λ rJ r Q f=>ep Z Z (b.O r) Z UH Z Z λ H5 E b=>f _ _ ?_;have:=r.size;have gU:=Φ ku r;have:=E.size;have rN:=Ext.H gU E bn;refine aA Z (λ _=>aj oJ Z)<|en Z Z Z λ xZ u Q f=>ep Z Z (b.O u) Z td Z Z λ Bq D b=>f _ _ ?_;have:=u.size;have jX:=Φ rN u;have:=D.size;have mT:=Ext.H jX D bn;refine fn λ qq s=>?_;have:=s.size;have hQ:=Φ mT s;refine a7<|av<|?_;refine c_ [(1,0),(2,2),(4,0),(5,2),(7,3),(9,3)] [0,1,3,4,2,6,5,7,8,9] ?_;refine aA Z (λ _=>aj rZ Z)<|?_;have b:=b.O s;refine cr Z Z b et Z<|aA Z (λ _=>aj fC Z)<|cr Z Z b gR Z<|fO Z Z Z λ KJ h Q f=>ca Au Z Z ((vN _ _ W.bE _ (B.M.be (Φ hQ h))).mono ?_);rintro e Fm ⟨YO,Gx,rfl,O,af,m⟩;refine⟨_,Z,f _ _ ⟨Φ h m,?_⟩⟩;have:=h.size;have vv:=Φ hQ h;have:=m.size;have nC:=Φ vv m;have ad:=b4 O.lt;have K:=dZ O.lt;refine aA Z (λ _=>aj rZ Z)<|fO Z Z Z λ X_ g Q f=>ca Pv Z Z ((LQ _ _ W.ah _ (B.T.be (Φ nC g))).mono ?_);rintro e Fp ⟨YQ,T',rfl,P,ah,i⟩;refine⟨_,Z,f _ _ ⟨Φ g i,?_⟩⟩;have:=g.size;have FH:=Φ nC g;have pS:=Φ FH i;have y:=dZ P.lt;have b:=b.O (Φ h (Φ m (Φ g i)));refine en Z Z Z λ R_ o Q f=>ep Z Z (b.O o) Z td Z Z λ C_ v b=>f _ _ ?_;have BB:=Φ pS o;have pT:=Ext.H BB v bn;refine aA Z (λ _=>aj fC Z)<|en Z Z Z λ NW k Q f=>ep Z Z (b.O k) Z Eb Z Z λ NZ z b=>f _ _ ?_;have wW:=Φ pT k;have mV:=Ext.H wW z bn;refine fn λ Sd l=>?_;have BF:=Φ mV l;refine a7<|ar<|?_;have b:=b.O l;refine κ (aq Z (b.all cD bP))<|?_;have A:=((((((((((A.O R).H S aJ).O (Φ p (Φ C (Φ j (Φ t r))))).H E aJ).O u).H D aJ).O (Φ s (Φ h (Φ m (Φ g (Φ i o)))))).H v aJ).O k).H z aJ).O l;refine ck Z Z A Z bP Z Z λ Sf F A=>?_;have vx:=Ext.H BF F bn;refine tC<|cJ (.cell Z (A.all cD bP) .nil)<|?_;have L:=((((((((((L.H S (bx G)).O (Φ p (Φ C (Φ j (Φ t r))))).H E (bx G)).O u).H D (bx G)).O (Φ s (Φ h (Φ m (Φ g (Φ i o)))))).H v (bx G)).O k).H z (bx G)).O l).H F (bx G);have M:=(((((((((M.O (Φ j (Φ t r))).H E (bx H)).O u).H D (bx H)).O (Φ s (Φ h (Φ m (Φ g (Φ i o)))))).H v (bx H)).O k).H z (bx H)).O l).H F (bx H);have N:=(((((((((N.O r).H E (bx x)).O u).H D (bx x)).O (Φ s (Φ h (Φ m (Φ g (Φ i o)))))).H v (bx x)).O k).H z (bx x)).O l).H F (bx x);have O:=(((((O.O (Φ g (Φ i o))).H v (bx K)).O k).H z (bx K)).O l).H F (bx K);have P:=(((((P.O o).H v (bx y)).O k).H z (bx y)).O l).H F (bx y);have hR:=bF.aeR (aQ:=w.heap.size) (L.dq GE) (M.dq GE) (N.dq GE) (O.dq GE) (P.dq GE) (λ q c d=>by exfalso;(have:=H q c;(have:=T q d;omega))) (λ q c d=>by exfalso;(have:=x q c;(have:=T q d;omega))) (λ q c d=>by exfalso;(have:=x q c;(have:=U q d;omega))) (λ q c d=>by exfalso;(have:=K q c;(have:=T q d;omega))) (λ q c d=>by exfalso;(have:=K q c;(have:=U q d;omega))) (λ q c d=>by exfalso;(have:=K q c;(have:=zn q d;omega))) (λ q c d=>by exfalso;(have:=y q c;(have:=T q d;omega))) (λ q c d=>by exfalso;(have:=y q c;(have:=U q d;omega))) (λ q c d=>by exfalso;(have:=y q c;(have:=zn q d;omega))) (λ q c d=>by exfalso;(have:=y q c;(have:=ad q d;omega))) B.nums;exact⟨⟨mW,YJ,YK,YO,YQ,s5,aa,ab,Gx,T'⟩,Z,hR,vx⟩
theorem aLb(a:ag.cS)(W:ag)(A:Option Addr)(c:Nat)(l:List ed)(w:World)(G:ag.fd w a W)(E:ed.ce.aF 24 w A c l):
  Calls prog 71 #[.agg ((ag.cells a W).toArray),.slice A l.length c] w (λ e w'=>∃ y r K,e=.returned (.tuple #[.agg (ag.cells y (rB W l)).toArray,.slice r (uU W l).length K,J (uT W l)])/\bF w' w.heap.size y (rB W l)/\bN.aM 3 8 w' w.heap.size (τ.ai r) r K (uU W l)/\(∀ q∈τ.ai r,q∉bF.G y)/\Ext w w'):=by
 refine bT (n:=26) func71 Z Z Z ?_;refine cZ Z Z λ ch P S cY d=>?_;have gp:=d.lt;refine cy nO Z λ dr X F fl b=>?_;have H:=Φ S F;have j8:=b.lt;refine va Z<|aG Z<|av<|ar<|?_;have d:=d.O F;refine κ (aq Z (d.all cD bP))<|cf L7 Z (Gz a W _ (G.be H)) λ fx i=>?_;have:=i.size;have s:=Φ H i;refine aG Z<|aC Z<|cV Z Z<|ax<|?_;refine fr Z (λ o=>?_) (λ o=>?_)
 .refine ar<|κ (v:=.agg #[J 0,J 0,.slice none 0 0,.slice none 0 0,.slice none 0 0,.slice none 0 0,.slice none 0 0,J 0,J 0]) (ee Z)<|vm Z<|?_;have b:=b.O i;refine ck Z Z b Z bP Z Z λ C7 sF b=>?_;have mq:=Ext.H s sF bn;refine va Z<|bc Z<|bR<|cJ (.cell Z (b.all cD bP) (.tmp Z (.tmp Z .nil)))<|?_;obtain⟨m,f,g⟩:=aqA (l:=l) o;exact⟨⟨none,none,none,none,none,0,0,0,0,0⟩,none,0,by rw[m,f,g];rfl,by rw[f];exact bF.zero _ _,by rw[g];exact τ.aM.nil _,λ q I=>by simp[τ.ai]at I,mq⟩
 .have T:=Good.G o;have tu:=T.dj;refine bf<|av<|aC Z<|κ (bY underlying139 Z)<|κ (gy Z Z)<|ax<|?_;refine c7 Z (λ uy=>?_) (λ uy=>?_)
  .refine ar<|κ (v:=.agg #[J 0,J 0,.slice none 0 0,.slice none 0 0,.slice none 0 0,.slice none 0 0,.slice none 0 0,J 0,J 0]) (ee Z)<|?_;have b:=b.O i;refine ck Z Z b Z bP Z Z λ wM O b=>?_;have l8:=Ext.H s O bn;refine va Z<|bc Z<|bR<|cJ (.cell Z (b.all cD bP) (.tmp Z (.tmp Z .nil)))<|?_;obtain⟨m,f,g⟩:=aqB (l:=l) o GE;exact⟨⟨none,none,none,none,none,0,0,0,0,0⟩,none,0,by rw[m,f,g];rfl,by rw[f];exact bF.zero _ _,by rw[g];exact τ.aM.nil _,λ q I=>by simp[τ.ai]at I,l8⟩
  .refine bf<|ar<|?_;have d:=d.O i;refine κ (aq Z (d.all cD bP))<|ca aB5 Z Z ((aK9 a W _ (G.be s)).mono ?_);rintro e pM ⟨k,rfl,j,t⟩;refine cR ?_;have:=t.size;have iE:=Φ s t;have R:=b4 j.lt;have h:=dZ j.lt;have d:=d.O t;refine st Z Z d Z bP Z Z Z λ Bo u d=>?_;have:=u.size;have L:=Ext.H iE u bn;refine ax<|ar<|κ (aq Z (d.all cD bP))<|vm Z<|?_;have j:=j.H u (bx h);refine ca aB6 Z Z ((aLc _ k W _ _ l _ j (E.be L) (λ Q q I z=>by have aa:=E.aKz GP Q q I;have ab:=h q (th z);omega) GE).mono ?_);rintro e H4 ⟨U,V,rfl,p,x,C⟩;refine cR ?_;have qw:=Ext.H L C (λ q I=>by have bu:=h q (th I);omega);rw[aPy k W l]at d;have D:=dZ p.lt;refine aG Z<|ar<|?_;have M:∀ q∈τ.ai k.T,q=P->False:=λ q I z=>by (have:=h q (th I);omega)
   have d:=d.H C (λ I=>M _ I rfl);refine κ (aq Z (d.all cD bP))<|vm Z<|?_;have b:=(b.O (Φ i t)).H u aJ;have N:∀ q∈τ.ai k.T,q=X->False:=λ q I z=>by (have:=h q (th I);omega)
   have b:=b.H C (λ I=>N _ I rfl);refine st Z Z b Z bP Z Z Z λ KH B b=>?_;have oB:=Ext.H qw B bn;refine va Z<|bc Z<|cJ (.cell Z (b.all cD bP) (.tmp Z (.tmp Z .nil)))<|?_;have x:=x.H B (bx h);have p:=p.H B (bx D);obtain⟨m,f,g⟩:=WK (l:=l) o GE;exact⟨k,U,V,by rw[m,f,g];rfl,by rw[f];exact x.dq GE,by rw[g];exact p.dq GE,λ q I Y=>by (have:=D q I;(have:=R q Y;omega)),oB⟩
end
structure n_(w:World)(aQ S:Nat)(a:ag.cS)(W:ag):Prop where
 iI:aO w S (ag.cells a W) 186 (0,0)
 own:bF w aQ a W
 far:S∉bF.G a
 low:aQ<=S
def n_.O{w w':World}{aQ S:Nat}{a:ag.cS}{W:ag}(h:n_ w aQ S a W)(b:Below w.heap.size w w'):n_ w' aQ S a W:=⟨h.iI.O b,h.own.O b,h.far,h.low⟩
theorem aiK(a b:aw)(w:World)(aa:0<=a.x)(ab:a.x<=40)(ay:0<=a.y)(ba:a.y<=40):
  Calls prog 165 #[.agg #[.int .i64 a.x,.int .i64 a.y],.agg #[.int .i64 b.x,.int .i64 b.y]] w λ e w'=>e=.returned (.bool (beside a b))/\Below w.heap.size w w':=by
 have du:=nL w (.cells #[.int .i64 a.x,.int .i64 a.y] 41);have dx:=nL (w.alloc (.cells #[.int .i64 a.x,.int .i64 a.y] 41)) (.cells #[.int .i64 b.x,.int .i64 b.y] 41);have ae:=du.trans (dx.mono du.size);unfold beside;clear du dx;rcases bb6 b.x (a.x-1)with c1|c1
 .rw[sw (.inl c1)];have d1:decide (a.x-1<=b.x)=false:=by simp;omega
  go_enter func165,ntmps165;go_wp2
  go_ret;exact⟨Z,ae⟩
 .have d1:decide (a.x-1<=b.x)=true:=by simp;omega
  rcases bb6 (a.x+1) b.x with c2|c2
  .rw[sw (n:=b.x) (.inr c2)];have d2:decide (b.x<=a.x+1)=false:=by simp;omega
   go_enter func165,ntmps165;go_wp2
   go_ret;exact⟨jS (by simp<;>omega),ae⟩
  .have d2:decide (b.x<=a.x+1)=true:=by simp;omega
   rw[kj (n:=b.x) c1 c2];rcases bb6 b.y (a.y-1)with c3|c3
   .rw[sw (.inl c3)];have d3:decide (a.y-1<=b.y)=false:=by simp;omega
    go_enter func165,ntmps165;go_wp2
    go_ret;exact⟨jS (by simp<;>omega),ae⟩
   .have d3:decide (a.y-1<=b.y)=true:=by simp;omega
    rcases bb6 (a.y+1) b.y with c4|c4
    .rw[sw (n:=b.y) (.inr c4)];have d4:decide (b.y<=a.y+1)=false:=by simp;omega
     go_enter func165,ntmps165;go_wp2
     go_ret;exact⟨jS (by simp<;>omega),ae⟩
    .have d4:decide (b.y<=a.y+1)=true:=by simp;omega
     rw[kj (n:=b.y) c3 c4];go_enter func165,ntmps165;go_wp2
     go_ret;exact⟨jS (by simp<;>omega),ae⟩
theorem aPQ(t:bb)(id:Int)(g:Nat)(w:World)(aW:w.cell? ⟨g,0,none⟩=some (.int .i64 id)):
  Calls prog 194 #[.agg #[.int .i64 t.id,.int .i64 t.H,.int .i64 t.O,.int .i64 t.an.x,.int .i64 t.an.y,.int .i64 t.K,.int .i64 t.load],.pointer (some ⟨g,0,none⟩)] w λ e w'=>e=.returned (.bool (je id t))/\Below w.heap.size w w':=by
 have ae:=nL w (.cells #[.int .i64 t.id,.int .i64 t.H,.int .i64 t.O,.int .i64 t.an.x,.int .i64 t.an.y,.int .i64 t.K,.int .i64 t.load] 68);have bW:=bcu w _ aW;simp only at bW;go_enter func194,ntmps194;go_wp2_with fail
 go_ret;exact⟨Z,ae⟩
theorem aIX(id:Int)(g:Nat)(A:Option Addr)(c:Nat)(l:List bb)(w:World)(az:bb.ce.aF 56 w A c l)(aW:w.cell? ⟨g,0,none⟩=some (.int .i64 id)):
  Calls prog 181 #[.slice A l.length c,.func (.func 194) #[] #[.pointer (some ⟨g,0,none⟩)]] w λ e w'=>e=.returned (.int .i64 (fK (je id) l))/\Below w.heap.size w w':=by
 obtain⟨n,hn⟩:∃ n,l.length=n:=⟨_,rfl⟩;have hle:n<=9223372036854775807:=by have:=az.1;have:=az.2.1;omega
 rw[hn];have qE:=bag az;have gx:=bag hn;clear az hn;go_enter func181,ntmps181;go_wp2_with fail
 go_loopw [5,8] (λ _ dp wr=>∃ k:Nat,k<=n/\dp=.int .i64 (k:Int)/\Hid (∀ j (aB:j<k) (p9:j<l.length),(je id) l[j]=false)/\Below w.heap.size w wr) (λ _ dp _=>n-(intOf dp).toNat)
 case atStart=>exact⟨0,ba1 _,rfl,(λ j aB=>GE),baL _ _⟩
 case round =>
  obtain⟨k,au,rfl,jM,ae⟩:=hrel;by_cases bW:k<n
  .have js:k<l.length:=by rw[gx.out];exact bW
   obtain⟨b,o,rfl,lh⟩:=bb.d9 (qE.out.be ae) GE;obtain⟨x,su⟩:∃ x,l[k]'js=x:=⟨_,rfl⟩;obtain⟨qV,kH,lH,Ba,Xd,ae5,arK⟩:=lh k x (by rw[bac js,su]);have zO:=bag su;have ado:wr.cell? ⟨g,0,none⟩=some (.int .i64 id):=cell_later ae aW;have hc:=aPQ x id g wr ado;clear lh su;cases lg:(je id) x with
   | true =>
    have nk:fK (je id) l=(k:Int):=JL js (by rw[zO.out];exact lg) λ j aB=>jM.out j aB GE;rw[lg]at hc;have ua:=bag nk;clear nk lg;go_wp2_with (go_at_call 194;refine hc.mono ?_;rintro e w' ⟨rfl,bQ⟩)
    go_ret;exact⟨by rw[ua.out];rfl,ae.trans (bQ.mono ae.size)⟩
   | false =>
    rw[lg]at hc;have rP:Hid (∀ j (aB:j<k+1) (p9:j<l.length),(je id) l[j]=false):=by
     intro j aB p9;by_cases h:j<k
     .exact jM.out j h p9
     .obtain rfl:j=k:=GE
      rw[zO.out];exact lg
    clear lg;go_wp2_with (go_at_call 194;refine hc.mono ?_;rintro e w' ⟨rfl,bQ⟩)
    go_roundw
    case rel=>exact⟨k+1,GE,by go_num,rP,ae.trans (bQ.mono ae.size)⟩
    case measure=>simp[intOf];omega
  .have nk:fK (je id) l= -1:=JK λ j aB=>jM.out j (by have:=gx.out;omega) aB;have ua:=bag nk;clear nk;go_wp2_with fail
   go_ret;exact⟨by rw[ua.out];rfl,ae⟩
def afS(a:ag.cS)(k:Nat):Option Addr:=a.T.map λ x=>⟨x.block,k*7,none⟩
def NG(a:ag.cS)(W:ag)(b:Int):Option Addr:=match W.ah.findIdx? (je b)with|none=>none|some k=>afS a k
theorem Xz(id:Int)(w:World)(aQ S:Nat)(a:ag.cS)(W:ag)(h:n_ w aQ S a W):
  Calls prog 164 #[.pointer (some ⟨S,0,none⟩),.int .i64 id] w λ e w'=>e=.returned (.pointer (NG a W id))/\Below w.heap.size w w':=by
 obtain⟨gd,hT,hU,gW,gl,gG,ho,hZ,hD,gY⟩:=a;have du:=nL w (.cells #[.int .i64 id] 3);have rr:=aO.new w [.int .i64 id] 3 (0,0);obtain⟨w0,k8⟩:∃ w0,Hid (w.alloc (.cells #[.int .i64 id] 3)=w0):=⟨_,bag rfl⟩;rw[k8.out]at du;have rr:aO w0 w.heap.size [.int .i64 id] 3 (0,0):=by rw[<-k8.out];exact rr
 have aN:=h.O du;obtain⟨dj,kv⟩:∃ n,Hid (W.ah.length=n):=⟨_,bag rfl⟩;have Ot:=bag (aIX id w.heap.size gl gY W.ah w0 aN.own.T.bv (rr.cell 0));have aW2:=h.iI.lt;obtain⟨cl,c1,c2,c3,c4,c5,eP,fi,fR⟩:=ag.V aN.iI;have bg:=bag aN.iI;have cc:bb.ce.aM 68 56 w0 aQ (τ.ai gl) gl gY W.ah:=aN.own.T;obtain⟨z8,hh,eZ,ig,yA,IQ,Z9,aU1,aU2⟩:=ag.V h.iI;rw[kv.out]at Ot eP Z9;unfold NG;cases hf:W.ah.findIdx? (je id)with
 | none =>
  have ao:fK (je id) W.ah= -1:=by unfold fK;rw[hf]
  rw[ao]at Ot;clear hf ao h aN cc rr;go_enter func164,ntmps164;go_wp2_with fail
  rw[k8.out];refine Ot.out.mono ?_;rintro e dn ⟨rfl,bQ⟩;go_wp2_with fail
  go_ret;exact⟨Z,du.trans (bQ.mono du.size)⟩
 | some k =>
  have ao:fK (je id) W.ah=(k:Int):=by unfold fK;rw[hf]
  rw[ao]at Ot;obtain⟨t,aK,_⟩:=L' hf;have au:k<dj:=by rw[<-kv.out];exact(bab.1 aK).1
  obtain⟨g,rfl⟩:=cc.block (by rw[kv.out];omega);have sm:(k:Int)<(dj:Int):=GE
  have si:(0:Int)<=(k:Int):=GE
  clear hf ao h aN cc rr aK;go_enter func164,ntmps164;go_wp2_with fail
  rw[k8.out];refine Ot.out.mono ?_;rintro e dn ⟨rfl,bQ⟩;have d6:=cell_later bQ eP;clear cl c1 c2 c3 c4 c5 eP fi fR;go_wp2_with fail
  go_ret;exact⟨by simp[afS],du.trans (bQ.mono du.size)⟩
def aTv(W:ag)(V:Option ag)(w:World)(aQ S:Nat)(e:Ending)(w':World):Prop :=
 ∃ a,e=.returned (.bool V.isSome)/\n_ w' aQ S a (V.getD W)/\Below aQ w w'
def aUj(W:ag)(d:dm)(w:World)(aQ S:Nat)(a:ag.cS)(e:Ending)(w':World):Prop :=
 ∃ V,e=.returned (.bool (W.C d).isSome)/\(W.C d).getD W=V/\n_ w' aQ S a V/\Below aQ w w'
theorem WM{W:ag}{d:dm}{k:Nat}{t:bb}(c:W.ah.findIdx? (je d.H)=some k)(a:W.ah[k]? =some t):
  W.C d=if t.O == 1 && decide (t.load<5) && beside t.an d.an && W.am.dF d.an && W.bE.getD (W.H d.an) 0 != 0 then
   some {W with bE:=W.bE.set (W.H d.an) (W.bE.getD (W.H d.an) 0-1),ah:=W.ah.set k (ag.k_ t 1)}else none:=by
 have b:W.ah.getD k default=t:=by rw[baa,a];rfl
 unfold ag.C;rw[c];simp only[b]
section
variable{w a8:World}{aQ k:Nat}{a:ag.cS}{id m:Int}{d:dm}{t:bb}
def zZ(W:ag)(V:Option ag)(w:World)(aQ S:Nat)(a:ag.cS)(e:Ending)(w':World):Prop :=
 ∃ b,e=.returned (.bool V.isSome)/\n_ w' aQ S b (V.getD W)/\(∀ q∈bF.G b,q∈bF.G a\/w.heap.size<=q)/\Mod (S::bF.G a) w w'
def bF.aOZ{W:ag}{l:List Int}(h:bF w aQ a W)(m:Mod (τ.ai a.M) w a8)(d:bN.aM 3 8 a8 aQ (τ.ai a.M) a.M a.m l):bF a8 aQ a {W with bE:=l}:=by
 obtain⟨d1,d2,d3⟩:=h.Uo;exact⟨h.P.H m λ x c b=>(d1 x b).1 c,h.B.H m λ x c b=>(d1 x b).2.1 c,h.S.H m λ x c b=>(d1 x b).2.2.1 c,d,h.T.H m λ x c b=>(d1 x b).2.2.2 c,h.apart,h.nums⟩
def bF.asD{W:ag}{l:List bb}(h:bF w aQ a W)(m:Mod (τ.ai a.T) w a8)(d:bb.ce.aM 68 56 a8 aQ (τ.ai a.T) a.T a.t l):bF a8 aQ a {W with ah:=l}:=by
 obtain⟨d1,d2,d3⟩:=h.Uo;exact⟨h.P.H m λ x c b=>(d2 x b).1 c,h.B.H m λ x c b=>(d2 x b).2.1 c,h.S.H m λ x c b=>(d2 x b).2.2.1 c,h.M.H m λ x c b=>(d2 x b).2.2.2 c,d,h.apart,h.nums⟩
def atl{W:ag}(h:bF w aQ a W)(b:W.ah.findIdx? (je id)=some k):NG a W id=some ⟨fv a.T,j7 a.T+k*7,none⟩:=by
 obtain⟨t,c,_⟩:=L' b;have e:bb.ce.aM 68 56 w aQ (τ.ai a.T) a.T a.t W.ah:=h.T;obtain⟨g,d⟩:=e.block (by have:=(bab.1 c).1;omega);unfold NG afS;rw[b,d];simp[fv,j7]
def atk{W:ag}(b:W.ah.findIdx? (je id)=none):NG a W id=none:=by unfold NG;rw[b]
def aqG{W:ag}(a:W.ah.findIdx? (je d.H)=none):W.C d=none:=by unfold ag.C;rw[a]
def aqF{W:ag}(c:W.ah.findIdx? (je d.H)=some k)(b:W.ah[k]? =some t)(h:((t.O != 1 || decide (5<=t.load)) || !beside t.an d.an)=true):W.C d=none:=by
 rw[WM c b,ban];intro a;simp only[bai,baF,ba9]at a;simp only[a.1.1.2,a.1.1.1.1,baY,bne_self_eq_false,baF,bcA,ba0,bcH,false_or]at h;omega
def aqH{W:ag}(e:W.ah.findIdx? (je d.H)=some k)(b:W.ah[k]? =some t)(c:W.am.br=0)(h:¬W.am.eS d.an=0):W.C d=none:=by
 rw[WM e b,ban];intro a;simp only[bai]at a;exact h (aE.C c a.1.2).1
def aqJ{W:ag}(b:W.ah.findIdx? (je d.H)=some k)(a:W.ah[k]? =some t)(c:W.bE.getD (W.H d.an) 0=m)(h:m=0):W.C d=none:=by
 rw[WM b a,c,h,ban Kx]
def aKY{W:ag}(g:W.ah.findIdx? (je d.H)=some k)(a:W.ah[k]? =some t)(c:t.O=1)(e:t.load<5)(b:beside t.an d.an=true)(f:W.am.dF d.an=true)(i:W.bE.getD (W.H d.an) 0=m)(h:¬m=0):
  W.C d=some {W with bE:=W.bE.set (W.H d.an) (m-1),ah:=W.ah.set k (ag.k_ t 1)}:=by
 rw[WM g a,i,bap];simp[c,e,b,f,h]
theorem aKW(d:dm)(w:World)(aQ S:Nat)(a:ag.cS)(W:ag)(h:n_ w aQ S a W)(y:Good W)(f:W.ah.findIdx? (je d.H)=none):
  Calls prog 133 #[.pointer (bd S),.agg #[J d.O,J d.H,J d.an.x,J d.an.y,J d.Y]] w (zZ W (W.C d) w aQ S a):=by
 have l:=h.low;have m:=h.far;have b:=h.iI;have c:=h.own;have t:=atk (a:=a) f;refine bT (n:=88) func133 Z Z Z ?_;refine cZ Z Z λ z u g x p=>?_;have o:=(Mod.U (S::bF.G a) w).trans (Mod.O g);refine aG Z<|aC Z<|κ (aj r0 Z)<|a1 Z p aH Z<|?_;have b:=b.O g;have c:=c.O g;refine cf Ur Z ((t ▸ Xz d.H _ aQ S a W ⟨b,c,m,l⟩)) λ A i=>?_;have r:=o.trans (Mod.O i);refine aG Z<|av<|av<|?_;refine c_ [(6,0),(13,0),(20,0),(22,0),(23,0)] [0,1,2,3,4,5,6,7,8,9,10,11,12,13,14,15,16,17,18,19,20,21,22,23,24,25] ?_;refine bt rfl rfl<|aA rfl (λ _=>T8 underlying218 rfl rfl)<|bt rfl rfl<|d' rfl rfl<|d' rfl rfl<|d' rfl rfl<|lB rfl rfl<|d' rfl rfl<|aA rfl (λ _=>pH rfl rfl)<|bt rfl rfl<|d' rfl rfl<|d' rfl rfl<|d' rfl rfl<|lB rfl rfl<|d' rfl rfl<|aA rfl (λ _=>pH rfl rfl)<|bt rfl rfl<|d' rfl rfl<|d' rfl rfl<|d' rfl rfl<|lB rfl rfl<|d' rfl rfl<|lB rfl rfl<|c8 (v:=undef) (args:=[]) rfl rfl rfl rfl rfl rfl Us (λ e=>nomatch e) (λ e=>nomatch e) rfl<|?_;refine d' Z Z<|aA Z (λ _=>pH Z Z)<|fn λ B k=>?_;have s:=r.trans (Mod.O k);refine a7<|fB Z<|ar<|bc Z<|bR<|b3 Z Z<|?_;have j:=(Φ i k);have c:=c.O j;have b:=b.O j;exact⟨a,by rw[aqG f];rfl,by rw[aqG f];exact⟨b,c,m,l⟩,λ q I=> .inl I,s⟩
theorem aKV(d:dm)(w:World)(aQ S:Nat)(a:ag.cS)(W:ag)(h:n_ w aQ S a W)(l:Good W)(k:Nat)(t:bb)(o:W.ah.findIdx? (je d.H)=some k)(f:W.ah[k]? =some t):
  Calls prog 133 #[.pointer (bd S),.agg #[J d.O,J d.H,J d.an.x,J d.an.y,J d.Y]] w (zZ W (W.C d) w aQ S a):=by
 have EH:=l.zc;have B:=h.low;have u:=h.far;have c:=h.iI;have b:=h.own;have L:∀ q∈bF.G a,q=S->False:=λ q I p=>u (p ▸ I);have U:=b4 b.lt;have ss:=atl b o;have M:=l.ah k t f;obtain⟨i1,i2,i3,i4,i5,i6⟩:=aE.idx l.am (aE.K M.ground);obtain⟨rM,Y,Yn,Yo,_,_⟩:=aE.hB l.am;have dx:0<=t.an.x:=GE
 have bQ:t.an.x<=40:=GE
 have eD:0<=t.an.y:=GE
 have eJ:t.an.y<=40:=GE
 have ah:=M.load;refine bT (n:=88) func133 Z Z Z ?_;refine cZ Z Z λ kr T H JR g=>?_;have dI:=(Mod.U (S::bF.G a) w).trans (Mod.O H);refine aG Z<|aC Z<|κ (aj r0 Z)<|a1 Z g aH Z<|?_;have c:=c.O H;have b:=b.O H;refine cf Ur Z ((ss ▸ Xz d.H _ aQ S a W ⟨c,b,u,B⟩)) λ qs v=>?_;have gi:=dI.trans (Mod.O v);refine aG Z<|av<|av<|?_;refine c_ [(6,0),(13,0),(20,0),(22,0),(23,0)] [0,1,2,3,4,5,6,7,8,9,10,11,12,13,14,15,16,17,18,19,20,21,22,23,24,25] ?_;refine bt Z Z<|aA Z (λ _=>T8 underlying218 Z Z)<|bt Z Z<|ft Z Z Z<|bC Z Z (λ e _=>cB Z)<|bC Z Z (λ e _=>aj Ar Z)<|?_;have b:=b.O v;refine cu Z Z (λ e _ x=>aq Z (τ.aF.C gm (by rw[<- (b.O x).T.bv.Y (aL k (by have:=(bab.1 f).1;exact this))];exact(b.O x).T.bv) 2 f Z aH))<|bC Z Z (λ e _=>bne Z Z)<|aA Z (λ _=>uZ Z Z)<|bt Z Z<|ft Z Z Z<|bC Z Z (λ e _=>cB (gt e Z))<|bC Z Z (λ e _=>aj r3 (gt e Z))<|cu Z Z (λ e _ x=>aq (gt e Z) (τ.aF.C gm (by rw[<- (b.O x).T.bv.Y (aL k (by have:=(bab.1 f).1;exact this))];exact(b.O x).T.bv) 6 f Z aH))<|bC Z Z (λ e _=>iV (gt e Z) Z)<|aA Z (λ _=>dS Z Z Z Z)<|bt Z Z<|ft Z Z Z<|bC Z Z (λ e _=>cB (gt e Z))<|bC Z Z (λ e _=>aj ld (gt e Z))<|cu Z Z (λ e _ x=>aq (gt e Z) (τ.aF.part gm (by rw[<- (b.O x).T.bv.Y (aL k (by have:=(bab.1 f).1;exact this))];exact(b.O x).T.bv) 3 (ds:=[J t.an.x,J t.an.y]) f Z bS bq))<|bC Z Z (λ e _=>aj GK Z)<|?_;have g:=g.O v;refine cu Z Z (λ e _ x=>aq (gt e Z) ((g.O x).Y [J d.an.x,J d.an.y] bS bq Z))<|c8 Z Z Z Z Z Z Us (λ e=>b6 (gt e Z) (b6 (gt e Z) Z)) (λ e _ x=>aiK t.an d.an _ dx bQ eD eJ) Z<|bC Z Z (λ e _=>dj (gt e Z))<|aA Z (λ _=>dS Z Z Z Z)<|fn λ xW s=>?_;have Q:=gi.trans (Mod.O s);refine a7<|?_;refine dB Z (λ z=>?_) (λ z=>?_)
 .refine ar<|bc Z<|bR<|b3 Z Z<|?_;have b:=b.O s;have c:=c.O (Φ v s);exact⟨a,by rw[aqF o f z];rfl,by rw[aqF o f z];exact⟨c,b,u,B⟩,λ q I=> .inl I,Q⟩
 .simp only[baN,bdn,baT,bbK,bfD]at z;obtain⟨⟨au,az⟩,X⟩:=z;refine bf<|av<|av<|?_;refine c_ [(4,0),(6,0),(7,0)] [0,1,2,3,4,5,6,7,8,9,10,11,12] ?_;refine bt Z Z<|aA Z (λ _=>cB Z)<|aA Z (λ _=>aj p2 Z)<|aA Z (λ _=>aj lA Z)<|?_;have c:=c.O (Φ v s);refine dE Z (λ _ x=>aq Z ((c.O x).Y [J W.am.O,J W.am.high,.slice a.P W.am.G.length a.p] gA gB Z))<|aA Z (λ _=>aj GK Z)<|?_;have g:=g.O s;refine dE Z (λ _ x=>aq Z ((g.O x).Y [J d.an.x,J d.an.y] bS bq Z))<|?_;have b:=b.O s;refine nQ Z Z uq Z (λ _ x=>vW W.am d.an a.P a.p _ ((b.O x).P).bv) Z<|bt Z Z<|aA Z (λ _=>ex Z Z)<|aA Z (λ _=>ex Z Z)<|aA Z (λ _=>fh Z)<|aA Z (λ _=>fh Z)<|fn λ rH r=>?_;have O:=Q.trans (Mod.O r);refine a7<|aC Z<|cV Z Z<|ax<|?_;refine fr Z (λ E=>?_) (λ E=>?_)
  .refine ar<|bc Z<|bR<|b3 Z Z<|?_;have b:=b.O r;have c:=c.O r;exact⟨a,by rw[aqH o f l.am E];rfl,by rw[aqH o f l.am E];exact⟨c,b,u,B⟩,λ q I=> .inl I,O⟩
  .have N:=Z4 l.am E;obtain⟨fo,fY,j_,q0,qt,sO⟩:=aE.idx l.am N;have wh:=aE.M l.am;obtain⟨rM,Y,Yn,Yo,_,_⟩:=aE.hB l.am;have n3:0<=d.an.y*W.am.O:=bca qt GE;have z2:d.an.y*W.am.O<=1600:=GE
   have VS:W.H d.an<W.bE.length:=by unfold ag.H;omega
   obtain⟨m,A⟩:=iK VS;have af:=l.bE _ m A;have F:W.bE.getD (W.H d.an) 0=m:=by rw[baa,A];rfl
   refine bf<|av<|?_;refine c_ [(4,0),(7,0),(13,0),(17,0)] [0,1,2,3,4,5,6,7,8,9,10,11,12,13,14,15,16,17,18,19,20] ?_;refine bt Z Z<|aA Z (λ _=>cB Z)<|aA Z (λ _=>aj p2 Z)<|aA Z (λ _=>aj rZ Z)<|?_;have c:=c.O r;refine cr Z Z c et Z<|aA Z (λ _=>aj GK Z)<|aA Z (λ _=>aj fk Z)<|?_;have g:=g.O r;refine cr Z Z g aH Z<|bt Z Z<|aA Z (λ _=>cB Z)<|aA Z (λ _=>aj p2 Z)<|aA Z (λ _=>aj lA Z)<|aA Z (λ _=>aj s8 Z)<|cr Z Z c aH Z<|aA Z (λ _=>mD Z Z dK)<|aA Z (λ _=>aj GK Z)<|aA Z (λ _=>aj fj Z)<|cr Z Z g aH Z<|aA Z (λ _=>bad Z Z dK)<|?_;have b:=b.O r;refine aA Z (λ _=>bD (((d.an.y*W.am.O)+d.an.x).toNat) underlying22 cO Z Z (b.M.bv.Y (aL (((d.an.y*W.am.O)+d.an.x).toNat) (show(d.an.y*W.am.O+d.an.x).toNat<W.bE.length by omega))) GE (show(d.an.y*W.am.O+d.an.x).toNat<W.bE.length by omega))<|aA Z (λ _=>fh Z)<|fn λ wL y=>?_;have P:=O.trans (Mod.O y);refine a7<|av<|aC Z<|κ (cB Z)<|?_;have b:=b.O y;refine κ (aq Z (τ.aF.H ew (by rw[<-b.M.bv.Y (aL (((d.an.y*W.am.O)+d.an.x).toNat) (show(d.an.y*W.am.O+d.an.x).toNat<W.bE.length by omega))];exact b.M.bv) A Z aH))<|κ (beq Z Z)<|ax<|?_;refine j1 Z (λ K=>?_) (λ K=>?_)
   .refine ar<|bc Z<|bR<|b3 Z Z<|?_;have c:=c.O y;exact⟨a,by rw[aqJ o f F K];rfl,by rw[aqJ o f F K];exact⟨c,b,u,B⟩,λ q I=> .inl I,P⟩
   .refine bf<|aC Z<|κ (cB Z)<|κ (aq Z (τ.aF.H ew (by rw[<-b.M.bv.Y (aL (((d.an.y*W.am.O)+d.an.x).toNat) (show(d.an.y*W.am.O+d.an.x).toNat<W.bE.length by omega))];exact b.M.bv) A Z aH))<|κ (hi Z Z dK)<|κ (cB Z)<|so (q':=m-1) (j:=0) (i:=((d.an.y*W.am.O)+d.an.x).toNat) b.M τ.O A Z Z Z Z (λ _ cs h=>by have R:=(show _/\_ from h).2;obtain rfl:=ew h;exact⟨rfl,b7.2 GE⟩) Z Z cO λ wM C ad=>?_;have c:=c.O y;have g:=g.O y;have l8:=P.Y C (λ q I=> .inl (bav _ (Ja I)));have D:=b.aOZ C ad;have aa:∀ q∈τ.ai a.M,q=S->False:=λ q I p=>by (exact L q (Ja I) p)
    have c:=c.H C (λ I=>aa _ I rfl);refine ax<|aC Z<|κ (cB Z)<|κ (aj r3 Z)<|κ (aq Z (τ.aF.C gm (by rw[<-D.T.bv.Y (aL k (by have:=(bab.1 f).1;exact this))];exact D.T.bv) 6 f Z aH))<|fb Z Z<|κ (cB Z)<|κ (aj r3 Z)<|so (q':=ag.k_ t 1) (j:=6) (i:=k) D.T τ.O f Z Z Z Z (λ _ cs h=>by have R:=(show _/\_ from h).2;obtain rfl:=gm h;exact⟨rfl,by obtain⟨kn,jh,jx,jQ,ko,oS,wy⟩:=R;exact⟨kn,jh,jx,jQ,ko,oS,b7.2 (by show _<=t.load+1/\t.load+1<=_;omega)⟩⟩) Z Z cO λ pM G ZD=>?_;have V:∀ q∈τ.ai a.M,q=T->False:=λ q I p=>by (have:=U q (Ja I);omega)
    have g:=g.H C (λ I=>V _ I rfl);have iE:=l8.Y G (λ q I=> .inl (bav _ (th I)));have ae:=D.asD G ZD;have ab:∀ q∈τ.ai a.T,q=S->False:=λ q I p=>by (exact L q (th I) p)
    have c:=c.H G (λ I=>ab _ I rfl);refine ax<|ar<|bc Z<|b3 Z Z<|?_;rw[aKY o f au az X N F (by assumption)];exact⟨a,Z,⟨by simpa[ag.cells]using c,ae,u,B⟩,λ q I=> .inl I,iE⟩
end
def aTw(W:ag)(d:dm)(w:World)(aQ S:Nat)(a:ag.cS)(e:Ending)(w':World):Prop :=
 ∃ V,e=.returned (.bool (W.drop d).isSome)/\(W.drop d).getD W=V/\n_ w' aQ S a V/\Below aQ w w'
theorem drop_eq{W:ag}{d:dm}{k:Nat}{t:bb}{b:aw}{s:Int}(h:W.ah.findIdx? (je d.H)=some k)(a:W.ah[k]? =some t)(f:W.aT[t.H.toNat]? =some b)(i:W.bl[t.H.toNat]? =some s):
  W.drop d=if t.load != 0 && beside b t.an && decide (0<min t.load (1000000-s))then
   some {W with bl:=W.bl.set t.H.toNat (s+min t.load (1000000-s)),ah:=W.ah.set k (ag.k_ t (-(min t.load (1000000-s))))}else none:=by
 have c:W.ah.getD k default=t:=by rw[baa,a];rfl
 have e:W.aT.getD t.H.toNat default=b:=by rw[baa,f];rfl
 have g:W.bl.getD t.H.toNat 0=s:=by rw[baa,i];rfl
 unfold ag.drop;rw[h];simp only[c,e,g]
def asF{a:Type}{l:List a}{i:Nat}{x:a}(h:l[i]? =some x):l.set i x=l:=by
 apply bbB;intro j;by_cases e:i=j
 .subst e;rw[baw (bab.1 h).1,h]
 .rw[baH e]
section
variable{d:dm}{k:Nat}{t:bb}{s:Int}
def akl{W:ag}(a:W.ah.findIdx? (je d.H)=none):W.drop d=none:=by unfold ag.drop;rw[a]
def akk{W:ag}{b:aw}(f:W.ah.findIdx? (je d.H)=some k)(c:W.ah[k]? =some t)(e:W.aT[t.H.toNat]? =some b)(g:W.bl[t.H.toNat]? =some s)(h:(t.load == 0 || !beside b t.an)=true):W.drop d=none:=by
 rw[drop_eq f c e g,ban];intro a;simp only[bai,bdQ]at a;simp only[a.1.2,baY,ba9,bcA,ba0,bcH]at h;exact a.1.1 h
theorem aBO{W:ag}{b:aw}(n:W.ah.findIdx? (je d.H)=some k)(c:W.ah[k]? =some t)(i:W.aT[t.H.toNat]? =some b)(e:W.bl[t.H.toNat]? =some s)(j:¬t.load=0)(g:beside b t.an=true)(f:Good W):
  (W.drop d).isSome=decide (0<min t.load (1000000-s))/\(W.drop d).getD W={W with bl:=W.bl.set t.H.toNat (s+min t.load (1000000-s)),ah:=W.ah.set k (ag.k_ t (-(min t.load (1000000-s))))}:=by
 have o:=(f.ah k t c).load.1;have p:=f.bl _ _ e;rw[drop_eq n c i e];by_cases a:0<min t.load (1000000-s)
 .rw[bap (by simp[j,g,a])];exact⟨by simp[a],rfl⟩
 .rw[ban (by simp[a])];have h:min t.load (1000000-s)=0:=GE
  refine⟨by simp[a],?_⟩;rw[h];have l:W.bl.set t.H.toNat (s+0)=W.bl:=by rw[Int.add_zero];exact asF e
  have m:W.ah.set k (ag.k_ t (-0))=W.ah:=by
   have:ag.k_ t (-0)=t:=by unfold ag.k_;simp
   rw[this];exact asF c
  rw[l,m];rfl
theorem aBG(d:dm)(w:World)(aQ S:Nat)(a:ag.cS)(W:ag)(h:n_ w aQ S a W)(y:Good W)(f:W.ah.findIdx? (je d.H)=none):
  Calls prog 134 #[.pointer (bd S),.agg #[J d.O,J d.H,J d.an.x,J d.an.y,J d.Y]] w (zZ W (W.drop d) w aQ S a):=by
 have l:=h.low;have m:=h.far;have b:=h.iI;have c:=h.own;have t:=atk (a:=a) f;refine bT (n:=80) func134 Z Z Z ?_;refine cZ Z Z λ z u g x p=>?_;have o:=(Mod.U (S::bF.G a) w).trans (Mod.O g);refine aG Z<|aC Z<|κ (aj r0 Z)<|a1 Z p aH Z<|?_;have b:=b.O g;have c:=c.O g;refine cf Ur Z ((t ▸ Xz d.H _ aQ S a W ⟨b,c,m,l⟩)) λ A i=>?_;have r:=o.trans (Mod.O i);refine aG Z<|av<|av<|?_;refine c_ [(6,0),(14,0),(18,0),(20,0),(24,0),(25,0)] [0,1,2,3,4,5,6,7,8,9,10,11,12,13,14,15,16,17,18,19,20,21,22,23,24,25,26,27] ?_;refine bt Z Z<|aA Z (λ _=>T8 underlying218 Z Z)<|bt Z Z<|d' Z Z<|d' Z Z<|d' Z Z<|lB Z Z<|d' Z Z<|aA Z (λ _=>pH Z Z)<|bt Z Z<|d' Z Z<|d' Z Z<|d' Z Z<|d' Z Z<|lB Z Z<|d' Z Z<|d' Z Z<|d' Z Z<|lB Z Z<|d' Z Z<|lB Z Z<|d' Z Z<|d' Z Z<|d' Z Z<|?_;refine lB rfl rfl<|c8 (v:=undef) (args:=[]) rfl rfl rfl rfl rfl rfl Us (λ e=>nomatch e) (λ e=>nomatch e) rfl<|d' rfl rfl<|aA rfl (λ _=>pH rfl rfl)<|fn λ B k=>?_;have s:=r.trans (Mod.O k);refine a7<|fB Z<|ar<|bc Z<|bR<|b3 Z Z<|?_;have j:=(Φ i k);have c:=c.O j;have b:=b.O j;exact⟨a,by rw[akl f];rfl,by rw[akl f];exact⟨b,c,m,l⟩,λ q I=> .inl I,s⟩
theorem drop2(d:dm)(w:World)(aQ S:Nat)(a:ag.cS)(W:ag)(h:n_ w aQ S a W)(p:Good W)(k:Nat)(t:bb)(D:W.ah.findIdx? (je d.H)=some k)(g:W.ah[k]? =some t):
  Calls prog 134 #[.pointer (bd S),.agg #[J d.O,J d.H,J d.an.x,J d.an.y,J d.Y]] w (zZ W (W.drop d) w aQ S a):=by
 have uL:=p.sl;have K:=h.low;have E:=h.far;have f:=h.iI;have e:=h.own;have N:∀ q∈bF.G a,q=S->False:=λ q I m=>E (m ▸ I);have X:=b4 e.lt;have ss:=atl e D;have O:=p.ah k t g;have ah:=O.H;obtain⟨b,m⟩:=iK (l:=W.aT) (i:=t.H.toNat) GE;obtain⟨s,r⟩:=iK (l:=W.bl) (i:=t.H.toNat) GE;have VY:=p.bl _ _ r;have ad:=p.aT _ _ m;obtain⟨i1,i2,i3,i4,i5,i6⟩:=aE.idx p.am (aE.K ad.1);obtain⟨rM,Sr,Yn,Yo,_,_⟩:=aE.hB p.am;have dx:0<=b.x:=GE
 have bQ:b.x<=40:=GE
 have eD:0<=b.y:=GE
 have eJ:b.y<=40:=GE
 have af:=O.load;have JD:ag.zd t.O<=5:=by unfold ag.zd;split<;>omega
 refine bT (n:=80) func134 Z Z Z ?_;refine cZ Z Z λ kr T L JR y=>?_;have dI:=(Mod.U (S::bF.G a) w).trans (Mod.O L);refine aG Z<|aC Z<|κ (aj r0 Z)<|a1 Z y aH Z<|?_;have f:=f.O L;have e:=e.O L;refine cf Ur Z ((ss ▸ Xz d.H _ aQ S a W ⟨f,e,E,K⟩)) λ qs B=>?_;have gi:=dI.trans (Mod.O B);refine aG Z<|av<|av<|?_;refine c_ [(6,0),(14,0),(18,0),(20,0),(24,0),(25,0)] [0,1,2,3,4,5,6,7,8,9,10,11,12,13,14,15,16,17,18,19,20,21,22,23,24,25,26,27] ?_;refine bt Z Z<|aA Z (λ _=>T8 underlying218 Z Z)<|bt Z Z<|ft Z Z Z<|bC Z Z (λ c _=>cB Z)<|bC Z Z (λ c _=>aj r3 Z)<|?_;have e:=e.O B;refine cu Z Z (λ c _ x=>aq Z (τ.aF.C gm (by rw[<- (e.O x).T.bv.Y (aL k (by have:=(bab.1 g).1;simpa using this))];exact(e.O x).T.bv) 6 g Z aH))<|bC Z Z (λ c _=>beq Z Z)<|aA Z (λ _=>uZ Z Z)<|bt Z Z<|ft Z Z Z<|bC Z Z (λ c _=>cB (gt c Z))<|bC Z Z (λ c _=>aj p2 (gt c Z))<|bC Z Z (λ c _=>aj lY (gt c Z))<|?_;have f:=f.O B;refine cu Z Z (λ c _ x=>aq (gt c Z) ((f.O x).one lZ Z))<|ft Z Z Z<|bC Z Z (λ c _=>cB (gt c Z))<|bC Z Z (λ c _=>aj ur (gt c Z))<|cu Z Z (λ c _ x=>aq (gt c Z) (τ.aF.C gm (by rw[<- (e.O x).T.bv.Y (aL k (by have:=(bab.1 g).1;simpa using this))];exact(e.O x).T.bv) 1 g Z aH))<|bC Z Z (λ c _=>bD t.H.toNat underlying25 bq (gt c Z) (gt c Z) (e.B.bv.Y (aL t.H.toNat (show t.H.toNat<W.aT.length by omega))) (by (try simp only[cb]at c);omega) (show t.H.toNat<W.aT.length by omega))<|cu Z Z (λ c _ x=>aq (gt c Z) (τ.aF.G ng (by rw[<- (e.O x).B.bv.Y (aL t.H.toNat (show t.H.toNat<W.aT.length by omega))];exact(e.O x).B.bv) m bS bq))<|ft Z Z Z<|bC Z Z (λ c _=>cB (gt c Z))<|bC Z Z (λ c _=>aj ld (gt c Z))<|cu Z Z (λ c _ x=>aq (gt c Z) (τ.aF.part gm (by rw[<- (e.O x).T.bv.Y (aL k (by have:=(bab.1 g).1;simpa using this))];exact(e.O x).T.bv) 3 (ds:=[J t.an.x,J t.an.y]) g Z bS bq))<|c8 Z Z Z Z Z Z Us (λ c=>b6 (gt c Z) (b6 (gt c Z) Z)) (λ c _ x=>aiK b t.an _ dx bQ eD eJ) Z<|bC Z Z (λ c _=>dj (gt c Z))<|aA Z (λ _=>dS Z Z Z Z)<|fn λ xW u=>?_;have P:=gi.trans (Mod.O u);refine a7<|?_;refine dB Z (λ z=>?_) (λ z=>?_)
 .refine ar<|bc Z<|bR<|b3 Z Z<|?_;have e:=e.O u;have f:=f.O u;exact⟨a,by rw[akk D g m r z];rfl,by rw[akk D g m r z];exact⟨f,e,E,K⟩,λ q I=> .inl I,P⟩
 .simp only[baN,bbG,bbK,ne_eq]at z;obtain⟨az,Y⟩:=z;have ab:(W.ah.set k (ag.k_ t (-(min t.load (1000000-s)))))[k]? =some (ag.k_ t (-(min t.load (1000000-s)))):=baw (bab.1 g).1;refine bf<|av<|?_;refine c_ [(3,0),(8,0),(12,0),(14,0)] [0,1,2,3,4,5,6,7,8,9,10,11,12,13,14,15,16,17] ?_;refine bt Z Z<|aA Z (λ _=>cB Z)<|aA Z (λ _=>aj r3 Z)<|?_;have e:=e.O u;refine dE Z (λ _ x=>aq Z (τ.aF.C gm (by rw[<- (e.O x).T.bv.Y (aL k (by have:=(bab.1 g).1;simpa using this))];exact(e.O x).T.bv) 6 g Z aH))<|bt Z Z<|aA Z (λ _=>cB Z)<|aA Z (λ _=>aj p2 Z)<|aA Z (λ _=>aj oJ Z)<|?_;have f:=f.O u;refine cr Z Z f et Z<|bt Z Z<|aA Z (λ _=>cB Z)<|aA Z (λ _=>aj ur Z)<|dE Z (λ _ x=>aq Z (τ.aF.C gm (by rw[<- (e.O x).T.bv.Y (aL k (by have:=(bab.1 g).1;simpa using this))];exact(e.O x).T.bv) 1 g Z aH))<|aA Z (λ _=>bD t.H.toNat underlying22 cO Z Z (e.S.bv.Y (aL t.H.toNat (show t.H.toNat<W.bl.length by omega))) GE (show t.H.toNat<W.bl.length by omega))<|dE Z (λ _ x=>aq Z (τ.aF.H ew (by rw[<- (e.O x).S.bv.Y (aL t.H.toNat (show t.H.toNat<W.bl.length by omega))];exact(e.O x).S.bv) r Z aH))<|aA Z (λ _=>hi Z Z dK)<|aA Z (λ _=>qh Z Z)<|aA Z (λ _=>fh Z)<|fn λ rH C=>?_;have ib:=P.trans (Mod.O C);refine a7<|aC Z<|κ (cB Z)<|κ (aj r3 Z)<|?_;have e:=e.O C;refine κ (aq Z (τ.aF.C gm (by rw[<-e.T.bv.Y (aL k (by have:=(bab.1 g).1;simpa using this))];exact e.T.bv) 6 g Z aH))<|vm Z<|κ (hi Z Z dK)<|κ (cB Z)<|κ (aj r3 Z)<|so (q':=ag.k_ t (-(min t.load (1000000-s)))) (j:=6) (i:=k) e.T τ.O g Z Z Z Z (λ _ cs h=>by have R:=(show _/\_ from h).2;obtain rfl:=gm h;exact⟨rfl,by obtain⟨kn,jh,jx,jQ,ko,oS,wy⟩:=R;exact⟨kn,jh,jx,jQ,ko,oS,b7.2 (by show _<=t.load+ -(min t.load (1000000-s))/\t.load+ -(min t.load (1000000-s))<=_;omega)⟩⟩) Z Z cO λ C7 F ae=>?_;have f:=f.O C;have y:=y.O (Φ B (Φ u C));have mq:=ib.Y F (λ q I=> .inl (bav _ (th I)));have o:=e.asD F ae;have U:∀ q∈τ.ai a.T,q=S->False:=λ q I m=>by (exact N q (th I) m)
  have f:=f.H F (λ I=>U _ I rfl);refine ax<|av<|?_;refine c_ [(4,0),(8,0),(10,0),(14,3)] [0,1,2,3,4,5,6,7,8,9,10,11,12,13,14] ?_;refine bt Z Z<|aA Z (λ _=>cB Z)<|aA Z (λ _=>aj p2 Z)<|aA Z (λ _=>aj oJ Z)<|cr Z Z f et Z<|bt Z Z<|aA Z (λ _=>cB Z)<|aA Z (λ _=>aj ur Z)<|US (v:=J t.H) Z Z (λ _ x=>aq Z (τ.aF.C gm (by rw[<- (o.O x).T.bv.Y (aL k (by have:=(bab.1 g).1;simpa using this))];exact(o.O x).T.bv) 1 ab Z aH)) Z<|aA Z (λ _=>bD t.H.toNat underlying22 cO Z Z (o.S.bv.Y (aL t.H.toNat (show t.H.toNat<W.bl.length by omega))) GE (show t.H.toNat<W.bl.length by omega))<|dE Z (λ _ x=>aq Z (τ.aF.H ew (by rw[<- (o.O x).S.bv.Y (aL t.H.toNat (show t.H.toNat<W.bl.length by omega))];exact(o.O x).S.bv) r Z aH))<|bt Z Z<|aA Z (λ _=>bad Z Z dK)<|aA Z (λ _=>bD t.H.toNat underlying22 cO Z Z (o.S.bv.Y (aL t.H.toNat (show t.H.toNat<W.bl.length by omega))) GE (show t.H.toNat<W.bl.length by omega))<|en Z Z Z λ C8 A Q hK=>so (q':=s+min t.load (1000000-s)) (j:=0) (i:=t.H.toNat) (o.O A).S τ.O r Z Z Z Z (λ _ cs h=>by have R:=(show _/\_ from h).2;obtain rfl:=ew h;exact⟨rfl,b7.2 GE⟩) Z Z cO λ vk M ZC=>hK _ _ ?_;have q3:=mq.trans (Mod.O A);have o:=o.O A;have f:=f.O A;have aa:∀ q∈τ.ai a.T,q=T->False:=λ q I m=>by (have:=X q (th I);omega)
  have y:=(y.H F (λ I=>aa _ I rfl)).O A;have gw:=q3.Y M (λ q I=> .inl (bav _ (GR I)));have G:=o.asC M ZC;have V:∀ q∈τ.ai a.S,q=S->False:=λ q I m=>by (exact N q (GR I) m)
  have f:=f.H M (λ I=>V _ I rfl);refine fn λ wN H=>?_;have jD:=gw.trans (Mod.O H);refine a7<|aC Z<|κ (gy Z Z)<|bc Z<|b3 Z Z<|?_;have G:=G.O H;have f:=f.O H;obtain⟨bm,bw⟩:=aBO D g m r az Y p;exact⟨a,by rw[bm];rfl,by rw[bw];exact⟨by simpa[ag.cells]using f,G,E,K⟩,λ q I=> .inl I,jD⟩
end
theorem aEM(t:bb)(p:aw)(g:Nat)(w:World)(aW:w.cell? ⟨g,0,none⟩=some (.int .i64 p.x)/\w.cell? ⟨g,1,none⟩=some (.int .i64 p.y)):
  Calls prog 195 #[.agg #[.int .i64 t.id,.int .i64 t.H,.int .i64 t.O,.int .i64 t.an.x,.int .i64 t.an.y,.int .i64 t.K,.int .i64 t.load],.pointer (some ⟨g,0,none⟩)] w λ e w'=>e=.returned (.bool (tB p t))/\Below w.heap.size w w':=by
 have ae:=nL w (.cells #[.int .i64 t.id,.int .i64 t.H,.int .i64 t.O,.int .i64 t.an.x,.int .i64 t.an.y,.int .i64 t.K,.int .i64 t.load] 68);obtain⟨aW,adp⟩:=aW;have bW:=bcu w _ aW;simp only at bW;by_cases h:t.an=p
 .have hr:tB p t=true:=by unfold tB;simp[h]
  rw[hr];subst h;clear hr;go_enter func195,ntmps195;go_wp2_with fail
  go_ret;exact⟨Z,ae⟩
 .have hr:tB p t=false:=by unfold tB;simp[h]
  have eV:(t.an.x == p.x)=false\/((t.an.x == p.x)=true/\(t.an.y == p.y)=false):=by
   obtain⟨_,_,_,⟨a,b⟩,_,_⟩:=t;obtain⟨c,d⟩:=p;simp at h ⊢;omega
  rw[hr];clear hr h;rcases eV with aa|⟨aa,ab⟩
  all_goals
   go_enter func195,ntmps195;go_wp2_with fail
   go_ret;exact⟨jS (by simp_all),ae⟩
theorem aIU(p:aw)(g:Nat)(A:Option Addr)(c:Nat)(l:List bb)(w:World)(az:bb.ce.aF 56 w A c l)(aW:w.cell? ⟨g,0,none⟩=some (.int .i64 p.x)/\w.cell? ⟨g,1,none⟩=some (.int .i64 p.y)):
  Calls prog 181 #[.slice A l.length c,.func (.func 195) #[] #[.pointer (some ⟨g,0,none⟩)]] w λ e w'=>e=.returned (.int .i64 (fK (tB p) l))/\Below w.heap.size w w':=by
 obtain⟨n,hn⟩:∃ n,l.length=n:=⟨_,rfl⟩;have hle:n<=9223372036854775807:=by have:=az.1;have:=az.2.1;omega
 rw[hn];have qE:=bag az;have gx:=bag hn;clear az hn;go_enter func181,ntmps181;go_wp2_with fail
 go_loopw [5,8] (λ _ dp wr=>∃ k:Nat,k<=n/\dp=.int .i64 (k:Int)/\Hid (∀ j (aB:j<k) (p9:j<l.length),(tB p) l[j]=false)/\Below w.heap.size w wr) (λ _ dp _=>n-(intOf dp).toNat)
 case atStart=>exact⟨0,ba1 _,rfl,(λ j aB=>GE),baL _ _⟩
 case round =>
  obtain⟨k,au,rfl,jM,ae⟩:=hrel;by_cases bW:k<n
  .have js:k<l.length:=by rw[gx.out];exact bW
   obtain⟨b,o,rfl,lh⟩:=bb.d9 (qE.out.be ae) GE;obtain⟨x,su⟩:∃ x,l[k]'js=x:=⟨_,rfl⟩;obtain⟨qV,kH,lH,Ba,Xd,ae5,arK⟩:=lh k x (by rw[bac js,su]);have zO:=bag su;have ado:wr.cell? ⟨g,0,none⟩=some (.int .i64 p.x)/\wr.cell? ⟨g,1,none⟩=some (.int .i64 p.y):=⟨cell_later ae aW.1,cell_later ae aW.2⟩;have hc:=aEM x p g wr ado;clear lh su;cases lg:(tB p) x with
   | true =>
    have nk:fK (tB p) l=(k:Int):=JL js (by rw[zO.out];exact lg) λ j aB=>jM.out j aB GE;rw[lg]at hc;have ua:=bag nk;clear nk lg;go_wp2_with (go_at_call 195;refine hc.mono ?_;rintro e w' ⟨rfl,bQ⟩)
    go_ret;exact⟨by rw[ua.out];rfl,ae.trans (bQ.mono ae.size)⟩
   | false =>
    rw[lg]at hc;have rP:Hid (∀ j (aB:j<k+1) (p9:j<l.length),(tB p) l[j]=false):=by
     intro j aB p9;by_cases h:j<k
     .exact jM.out j h p9
     .obtain rfl:j=k:=GE
      rw[zO.out];exact lg
    clear lg;go_wp2_with (go_at_call 195;refine hc.mono ?_;rintro e w' ⟨rfl,bQ⟩)
    go_roundw
    case rel=>exact⟨k+1,GE,by go_num,rP,ae.trans (bQ.mono ae.size)⟩
    case measure=>simp[intOf];omega
  .have nk:fK (tB p) l= -1:=JK λ j aB=>jM.out j (by have:=gx.out;omega) aB;have ua:=bag nk;clear nk;go_wp2_with fail
   go_ret;exact⟨by rw[ua.out];rfl,ae⟩
theorem aGh(p:aw)(g:Nat)(A:Option Addr)(c:Nat)(l:List bb)(w:World)(az:bb.ce.aF 56 w A c l)(aW:w.cell? ⟨g,0,none⟩=some (.int .i64 p.x)/\w.cell? ⟨g,1,none⟩=some (.int .i64 p.y)):
  Calls prog 144 #[.slice A l.length c,.func (.func 195) #[] #[.pointer (some ⟨g,0,none⟩)]] w λ e w'=>e=.returned (.bool (l.any (tB p)))/\Below w.heap.size w w':=by
 have hc:=aIU p g A c l w az aW;rw[<-MW];generalize fK (tB p) l=r at *
 generalize l.length=n at *
 clear az aW;go_enter func144,ntmps144;go_wp2_with (go_at_call 181;refine hc.mono ?_;rintro e w' ⟨rfl,bQ⟩)
 go_ret;exact⟨Z,bQ⟩
section
variable{p:aw}
def Dv:dU prog aw.ce 25 41 16:=dU.O (z:=aw.zero) (k:=2) underlying25 aw.G rfl rfl GP aw.M
def aq9{W:ag}{c:aw}(h:W.am.br=0):((W.am.eS c == 0 && W.am.p1 c != 1) && !W.ah.any (tB c))=W.HH c:=by
 unfold ag.HH aE.ground;cases a:W.am.dF c with
 | false=>rw[(aE.O5 h a).1];rfl
 | true=>rw[(aE.C h a).1,(aE.C h a).2];rfl
def acg{a:Type}{l:List a}{j:Nat}{u:a}(h:j<l.length):l.getD j u=l[j]:=by rw[baa,bac h];rfl
def aEQ{W:ag}{k:Nat}(c:k<10)(b:∀ j,j<k->W.HH ((ag.fm p).getD j default)=false)(h:W.HH ((ag.fm p).getD k default)=true):W.free p=some ((ag.fm p).getD k default):=by
 have d:(ag.fm p).length=10:=rfl;unfold ag.free;rw[bcp];refine⟨h,k,GE,(acg GE).symm,λ j a=>?_⟩;have:=b j a;rw[acg GE]at this;simp[this]
def aEP{W:ag}(c:∀ j,j<10->W.HH ((ag.fm p).getD j default)=false):W.free p=none:=by
 have d:(ag.fm p).length=10:=rfl;unfold ag.free;rw[bbu];intro x b;obtain⟨j,a,rfl⟩:=bbf.1 b;have:=c j GE;rw[acg a]at this;simp[this]
theorem aEN(p:aw)(w:World)(aQ S:Nat)(a:ag.cS)(W:ag)(h:n_ w aQ S a W)(aZ:Good W)(hp:0<=p.x/\p.x<=100/\0<=p.y/\p.y<=100):
  Calls prog 167 #[.pointer (bd S),.agg #[J p.x,J p.y]] w (λ e w'=>e=.returned (.tuple #[.agg (((W.free p).getD ⟨0,0⟩).cells).toArray,.bool (W.free p).isSome])/\Ext w w'):=by
 have f:=h.iI;have qV:=h.iI.lt;have ub:=h.own.T.bv;have DI:=h.own.P.bv;refine bT (n:=70) func167 Z Z Z ?_;refine cZ Z Z λ ch s aV cY b=>?_;have gp:=b.lt;refine cy pk Z λ dr i bh fl d=>?_;have bo:=Φ aV bh;have j8:=d.lt;refine aG Z<|ar<|?_;have b:=b.O bh;refine κ (aq Z (b.all bS bq))<|cT (e:=41) (cs:=[J p.x,J p.y]) Z (λ _=>GT) Z λ fx F cm oM aY=>?_;have cj:=Φ bo cm;have wF:=aY.lt;refine aG Z<|av<|ar<|aG Z<|bp<|EU 4<|kC<|av<|aC Z<|κ (ble Z Z)<|ax<|fB Z<|bf<|av<|bp<|?_;refine ar<|aG Z<|bp<|EU 4<|kC<|av<|aC Z<|κ (ble Z Z)<|ax<|fB Z<|bf<|av<|bp<|rg<|vm Z<|κ (aj fj Z)<|?_;have b:=b.O cm;refine a1 Z b aH Z<|vm Z<|fb Z Z<|κ (aj fk Z)<|a1 Z b aH Z<|vm Z<|fb Z Z<|κ (v:=.agg #[J (p.x+(-1)),J (p.y+(-1))]) (ee Z)<|cT (e:=41) (cs:=[J (p.x+(-1)),J (p.y+(-1))]) Z (λ _=>GT) Z λ mn O7 G dt vy=>?_;have eM:=Φ cj G;have Xg:=vy.lt;have aY:=aY.O G;have Tw:=aO.K (R:=aw.ce) (by_:=16) (B:=w.heap.size) (k:=[p]) aY [[J p.x,J p.y]] rfl (⟨⟨rfl,⟨ea,ea⟩⟩,trivial⟩) Kx Kx GP GE;have al:∀ q∈τ.ai (bd F),F<=q:=λ q I=>bbz (bah.1 I).symm;refine ap Dv τ.O Tw (aO.G (R:=aw.ce) (by_:=16) (q:=(⟨p.x+(-1),p.y+(-1)⟩:aw)) vy ⟨Z,⟨ea,ea⟩⟩ GP) Z Z (by first|(simp<;>omega)|omega) (by first|(simp<;>omega)|omega) eM.size Z λ xX mv c5 L Tx aa ci=>?_;have:=L.size;have lu:=Ext.H eM L (λ q I=>(Tw.lt q I).1);refine va Z<|nl<|bK<|a7<|rg<|vm Z<|κ (oa (r:=0) Z Z GP GP)<|va Z<|nl<|om<|kC<|av<|aC Z<|κ (ble Z Z)<|ax<|fB Z<|bf<|av<|bp<|rg<|?_;refine vm Z<|κ (aj fj Z)<|?_;have b:=b.O G;have Cl:∀ q∈τ.ai (bd F),q=s->False:=λ q I c=>by (have:=al q I;omega)
 have b:=b.H L (λ I=>Cl _ I rfl);refine a1 Z b aH Z<|vm Z<|fb Z Z<|κ (aj fk Z)<|a1 Z b aH Z<|vm Z<|fb Z Z<|κ (v:=.agg #[J (p.x+0),J (p.y+(-1))]) (ee Z)<|cT (e:=41) (cs:=[J (p.x+0),J (p.y+(-1))]) Z (λ _=>GT) Z λ rJ dd N ds aE=>?_;have gU:=Φ lu N;have cn:=aE.lt;have Tx:=Tx.O N;refine ap Dv τ.O Tx (aO.G (R:=aw.ce) (by_:=16) (q:=(⟨p.x+0,p.y+(-1)⟩:aw)) aE ⟨Z,⟨ea,ea⟩⟩ GP) Z Z (by first|(simp<;>omega)|omega) (by first|(simp<;>omega)|omega) gU.size Z λ xZ YN c6 H LD ab b9=>?_;have:=H.size;have jX:=Ext.H gU H (λ q I=>(Tx.lt q I).1);refine va Z<|nl<|bK<|a7<|rg<|vm Z<|κ (oa (r:=1) Z Z GP GP)<|va Z<|nl<|om<|kC<|av<|aC Z<|κ (ble Z Z)<|ax<|fB Z<|bf<|av<|bp<|rg<|?_;refine vm Z<|κ (aj fj Z)<|?_;have b:=b.O N;have qJ:∀ q∈τ.ai mv,q=s->False:=λ q I c=>by (exact baC (aa q I) (λ bG=>by (exact Cl q bG c)) (λ bG=>GE))
 have b:=b.H H (λ I=>qJ _ I rfl);refine a1 Z b aH Z<|vm Z<|fb Z Z<|κ (aj fk Z)<|a1 Z b aH Z<|vm Z<|fb Z Z<|κ (v:=.agg #[J (p.x+1),J (p.y+(-1))]) (ee Z)<|cT (e:=41) (cs:=[J (p.x+1),J (p.y+(-1))]) Z (λ _=>GT) Z λ NR dw K cE FQ=>?_;have vw:=Φ jX K;have du:=FQ.lt;have LD:=LD.O K;refine ap Dv τ.O LD (aO.G (R:=aw.ce) (by_:=16) (q:=(⟨p.x+1,p.y+(-1)⟩:aw)) FQ ⟨Z,⟨ea,ea⟩⟩ GP) Z Z (by first|(simp<;>omega)|omega) (by first|(simp<;>omega)|omega) vw.size Z λ X_ YP T' P Ty ad ca=>?_;have:=P.size;have FH:=Ext.H vw P (λ q I=>(LD.lt q I).1);refine va Z<|nl<|bK<|a7<|rg<|vm Z<|κ (oa (r:=2) Z Z GP GP)<|va Z<|nl<|om<|kC<|av<|aC Z<|κ (ble Z Z)<|ax<|ef Z<|cI<|cH<|cU<|cG<|bK<|?_;refine a7<|rg<|vm Z<|κ (oa (r:=0) Z Z GP GP)<|va Z<|nl<|om<|kC<|av<|aC Z<|κ (ble Z Z)<|ax<|fB Z<|bf<|av<|bp<|ar<|va Z<|nl<|?_;refine a7<|bp<|EU 4<|kC<|av<|aC Z<|κ (ble Z Z)<|ax<|fB Z<|bf<|av<|bp<|rg<|vm Z<|κ (aj fj Z)<|?_;have b:=b.O K;have aM:∀ q∈τ.ai YN,q=s->False:=λ q I c=>by (exact baC (ab q I) (λ Q6=>by (exact qJ q Q6 c)) (λ Q6=>GE))
 have b:=b.H P (λ I=>aM _ I rfl);refine a1 Z b aH Z<|vm Z<|fb Z Z<|κ (aj fk Z)<|a1 Z b aH Z<|vm Z<|fb Z Z<|κ (v:=.agg #[J (p.x+(-1)),J (p.y+0)]) (ee Z)<|cT (e:=41) (cs:=[J (p.x+(-1)),J (p.y+0)]) Z (λ _=>GT) Z λ NV c9 E dn aF=>?_;have pU:=Φ FH E;have co:=aF.lt;have Ty:=Ty.O E;refine ap Dv τ.O Ty (aO.G (R:=aw.ce) (by_:=16) (q:=(⟨p.x+(-1),p.y+0⟩:aw)) aF ⟨Z,⟨ea,ea⟩⟩ GP) Z Z (by first|(simp<;>omega)|omega) (by first|(simp<;>omega)|omega) pU.size Z λ Sb YS c8 T Y ak cb=>?_;have:=T.size;have BD:=Ext.H pU T (λ q I=>(Ty.lt q I).1);refine va Z<|nl<|bK<|a7<|rg<|vm Z<|κ (oa (r:=0) Z Z GP GP)<|va Z<|nl<|om<|kC<|av<|aC Z<|κ (ble Z Z)<|ax<|fB Z<|bf<|av<|bp<|rg<|?_;refine vm Z<|κ (aj fj Z)<|?_;have b:=b.O E;have Co:∀ q∈τ.ai YP,q=s->False:=λ q I c=>by (exact baC (ad q I) (λ bB=>by (exact aM q bB c)) (λ bB=>GE))
 have b:=b.H T (λ I=>Co _ I rfl);refine a1 Z b aH Z<|vm Z<|fb Z Z<|κ (aj fk Z)<|a1 Z b aH Z<|vm Z<|fb Z Z<|κ (v:=.agg #[J (p.x+0),J (p.y+0)]) (ee Z)<|cT (e:=41) (cs:=[J (p.x+0),J (p.y+0)]) Z (λ _=>GT) Z λ dv cX U dh ao=>?_;have N8:=Φ BD U;have cp:=ao.lt;have Y:=Y.O U;refine ap Dv τ.O Y (aO.G (R:=aw.ce) (by_:=16) (q:=(⟨p.x+0,p.y+0⟩:aw)) ao ⟨Z,⟨ea,ea⟩⟩ GP) Z Z (by first|(simp<;>omega)|omega) (by first|(simp<;>omega)|omega) N8.size Z λ R5 YC c1 M X ae dm=>?_;have:=M.size;have zD:=Ext.H N8 M (λ q I=>(Y.lt q I).1);refine va Z<|nl<|bK<|a7<|rg<|vm Z<|κ (oa (r:=1) Z Z GP GP)<|va Z<|nl<|om<|kC<|av<|aC Z<|κ (ble Z Z)<|ax<|fB Z<|bf<|av<|bp<|rg<|?_;refine vm Z<|κ (aj fj Z)<|?_;have b:=b.O U;have GG:∀ q∈τ.ai YS,q=s->False:=λ q I c=>by (exact baC (ak q I) (λ Q2=>by (exact Co q Q2 c)) (λ Q2=>GE))
 have b:=b.H M (λ I=>GG _ I rfl);refine a1 Z b aH Z<|vm Z<|fb Z Z<|κ (aj fk Z)<|a1 Z b aH Z<|vm Z<|fb Z Z<|κ (v:=.agg #[J (p.x+1),J (p.y+0)]) (ee Z)<|cT (e:=41) (cs:=[J (p.x+1),J (p.y+0)]) Z (λ _=>GT) Z λ X3 c0 z dk ay=>?_;have wU:=Φ zD z;have cq:=ay.lt;have X:=X.O z;refine ap Dv τ.O X (aO.G (R:=aw.ce) (by_:=16) (q:=(⟨p.x+1,p.y+0⟩:aw)) ay ⟨Z,⟨ea,ea⟩⟩ GP) Z Z (by first|(simp<;>omega)|omega) (by first|(simp<;>omega)|omega) wU.size Z λ cL YE c2 Q Tn af cc=>?_;have:=Q.size;have b2:=Ext.H wU Q (λ q I=>(X.lt q I).1);refine va Z<|nl<|bK<|a7<|rg<|vm Z<|κ (oa (r:=2) Z Z GP GP)<|va Z<|nl<|om<|kC<|av<|aC Z<|κ (ble Z Z)<|ax<|ef Z<|cI<|cH<|cU<|cG<|bK<|?_;refine a7<|rg<|vm Z<|κ (oa (r:=1) Z Z GP GP)<|va Z<|nl<|om<|kC<|av<|aC Z<|κ (ble Z Z)<|ax<|fB Z<|bf<|av<|bp<|ar<|va Z<|nl<|?_;refine a7<|bp<|EU 4<|kC<|av<|aC Z<|κ (ble Z Z)<|ax<|fB Z<|bf<|av<|bp<|rg<|vm Z<|κ (aj fj Z)<|?_;have b:=b.O z;have bb:∀ q∈τ.ai YC,q=s->False:=λ q I c=>by (exact baC (ae q I) (λ Hq=>by (exact GG q Hq c)) (λ Hq=>GE))
 have b:=b.H Q (λ I=>bb _ I rfl);refine a1 Z b aH Z<|vm Z<|fb Z Z<|κ (aj fk Z)<|a1 Z b aH Z<|vm Z<|fb Z Z<|κ (v:=.agg #[J (p.x+(-1)),J (p.y+1)]) (ee Z)<|cT (e:=41) (cs:=[J (p.x+(-1)),J (p.y+1)]) Z (λ _=>GT) Z λ cu da A dl az=>?_;have bI:=Φ b2 A;have cr:=az.lt;have Tn:=Tn.O A;refine ap Dv τ.O Tn (aO.G (R:=aw.ce) (by_:=16) (q:=(⟨p.x+(-1),p.y+1⟩:aw)) az ⟨Z,⟨ea,ea⟩⟩ GP) Z Z (by first|(simp<;>omega)|omega) (by first|(simp<;>omega)|omega) bI.size Z λ cv YF c3 t To ah cd=>?_;have:=t.size;have bZ:=Ext.H bI t (λ q I=>(Tn.lt q I).1);refine va Z<|nl<|bK<|a7<|rg<|vm Z<|κ (oa (r:=0) Z Z GP GP)<|va Z<|nl<|om<|kC<|av<|aC Z<|κ (ble Z Z)<|ax<|fB Z<|bf<|av<|bp<|rg<|?_;refine vm Z<|κ (aj fj Z)<|?_;have b:=b.O A;have be:∀ q∈τ.ai YE,q=s->False:=λ q I c=>by (exact baC (af q I) (λ Hr=>by (exact bb q Hr c)) (λ Hr=>GE))
 have b:=b.H t (λ I=>be _ I rfl);refine a1 Z b aH Z<|vm Z<|fb Z Z<|κ (aj fk Z)<|a1 Z b aH Z<|vm Z<|fb Z Z<|κ (v:=.agg #[J (p.x+0),J (p.y+1)]) (ee Z)<|cT (e:=41) (cs:=[J (p.x+0),J (p.y+1)]) Z (λ _=>GT) Z λ cw db O df aD=>?_;have bL:=Φ bZ O;have ct:=aD.lt;have To:=To.O O;refine ap Dv τ.O To (aO.G (R:=aw.ce) (by_:=16) (q:=(⟨p.x+0,p.y+1⟩:aw)) aD ⟨Z,⟨ea,ea⟩⟩ GP) Z Z (by first|(simp<;>omega)|omega) (by first|(simp<;>omega)|omega) bL.size Z λ cx an c4 Wz Ga bg ce=>?_;have b0:=Ext.H bL Wz (λ q I=>(To.lt q I).1);refine va Z<|nl<|bK<|a7<|rg<|vm Z<|κ (oa (r:=1) Z Z GP GP)<|va Z<|nl<|om<|kC<|av<|aC Z<|κ (ble Z Z)<|ax<|fB Z<|bf<|av<|bp<|rg<|?_;refine vm Z<|κ (aj fj Z)<|?_;have b:=b.O O;have Uk:∀ q∈τ.ai YF,q=s->False:=λ q I c=>by (exact baC (ah q I) (λ Q3=>by (exact be q Q3 c)) (λ Q3=>GE))
 have b:=b.H Wz (λ I=>Uk _ I rfl);refine a1 Z b aH Z<|vm Z<|fb Z Z<|κ (aj fk Z)<|a1 Z b aH Z<|vm Z<|fb Z Z<|κ (v:=.agg #[J (p.x+1),J (p.y+1)]) (ee Z)<|cT (e:=41) (cs:=[J (p.x+1),J (p.y+1)]) Z (λ _=>GT) Z λ cz dc Yl dg b7=>?_;have bM:=Φ b0 Yl;have Ga:=Ga.O Yl;refine ap Dv τ.O Ga (aO.G (R:=aw.ce) (by_:=16) (q:=(⟨p.x+1,p.y+1⟩:aw)) b7 ⟨Z,⟨ea,ea⟩⟩ GP) Z Z (by first|(simp<;>omega)|omega) (by first|(simp<;>omega)|omega) bM.size Z λ cA YH aK am m de cf=>?_;have b1:=Ext.H bM am (λ q I=>(Ga.lt q I).1);refine va Z<|nl<|bK<|a7<|rg<|vm Z<|κ (oa (r:=2) Z Z GP GP)<|va Z<|nl<|om<|kC<|av<|aC Z<|κ (ble Z Z)<|ax<|ef Z<|cI<|cH<|cU<|cG<|bK<|?_;refine a7<|rg<|vm Z<|κ (oa (r:=2) Z Z GP GP)<|va Z<|nl<|om<|kC<|av<|aC Z<|κ (ble Z Z)<|ax<|ef Z<|cI<|cH<|cU<|cG<|a7<|av<|ar<|?_;refine vm Z<|κ (bY underlying25 Z)<|vm Z<|ax<|bp<|?_;have fG:[p]++ [(⟨p.x+(-1),p.y+(-1)⟩:aw)]++ [(⟨p.x+0,p.y+(-1)⟩:aw)]++ [(⟨p.x+1,p.y+(-1)⟩:aw)]++ [(⟨p.x+(-1),p.y+0⟩:aw)]++ [(⟨p.x+0,p.y+0⟩:aw)]++ [(⟨p.x+1,p.y+0⟩:aw)]++ [(⟨p.x+(-1),p.y+1⟩:aw)]++ [(⟨p.x+0,p.y+1⟩:aw)]++ [(⟨p.x+1,p.y+1⟩:aw)]=(ag.fm p):=by simp[ag.fm,Int.sub_eq_add_neg]
 rw[fG]at m;have f:=f.O (Φ aV (Φ bh (Φ cm G)));have aN:∀ q∈τ.ai (bd F),q=S->False:=λ q I c=>by (have:=al q I;omega)
 have f:=(f.H L (λ I=>aN _ I rfl)).O N;have aP:∀ q∈τ.ai mv,q=S->False:=λ q I c=>by (exact baC (aa q I) (λ bw=>by (exact aN q bw c)) (λ bw=>GE))
 have f:=(f.H H (λ I=>aP _ I rfl)).O K;have aS:∀ q∈τ.ai YN,q=S->False:=λ q I c=>by (exact baC (ab q I) (λ bx=>by (exact aP q bx c)) (λ bx=>GE))
 have f:=(f.H P (λ I=>aS _ I rfl)).O E;have aT:∀ q∈τ.ai YP,q=S->False:=λ q I c=>by (exact baC (ad q I) (λ bz=>by (exact aS q bz c)) (λ bz=>GE))
 have f:=(f.H T (λ I=>aT _ I rfl)).O U;have aU:∀ q∈τ.ai YS,q=S->False:=λ q I c=>by (exact baC (ak q I) (λ bA=>by (exact aT q bA c)) (λ bA=>GE))
 have f:=(f.H M (λ I=>aU _ I rfl)).O z;have aW:∀ q∈τ.ai YC,q=S->False:=λ q I c=>by (exact baC (ae q I) (λ bi=>by (exact aU q bi c)) (λ bi=>GE))
 have f:=(f.H Q (λ I=>aW _ I rfl)).O A;have aX:∀ q∈τ.ai YE,q=S->False:=λ q I c=>by (exact baC (af q I) (λ bj=>by (exact aW q bj c)) (λ bj=>GE))
 have f:=(f.H t (λ I=>aX _ I rfl)).O O;have a0:∀ q∈τ.ai YF,q=S->False:=λ q I c=>by (exact baC (ah q I) (λ bk=>by (exact aX q bk c)) (λ bk=>GE))
 have f:=(f.H Wz (λ I=>a0 _ I rfl)).O Yl;have bO:∀ q∈τ.ai an,q=S->False:=λ q I c=>by (exact baC (bg q I) (λ bl=>by (exact a0 q bl c)) (λ bl=>GE))
 have f:=f.H am (λ I=>bO _ I rfl);have d:=d.O (Φ cm G);have a2:∀ q∈τ.ai (bd F),q=i->False:=λ q I c=>by (have:=al q I;omega)
 have d:=(d.H L (λ I=>a2 _ I rfl)).O N;have a3:∀ q∈τ.ai mv,q=i->False:=λ q I c=>by (exact baC (aa q I) (λ bm=>by (exact a2 q bm c)) (λ bm=>GE))
 have d:=(d.H H (λ I=>a3 _ I rfl)).O K;have a4:∀ q∈τ.ai YN,q=i->False:=λ q I c=>by (exact baC (ab q I) (λ br=>by (exact a3 q br c)) (λ br=>GE))
 have d:=(d.H P (λ I=>a4 _ I rfl)).O E;have a5:∀ q∈τ.ai YP,q=i->False:=λ q I c=>by (exact baC (ad q I) (λ bs=>by (exact a4 q bs c)) (λ bs=>GE))
 have d:=(d.H T (λ I=>a5 _ I rfl)).O U;have a6:∀ q∈τ.ai YS,q=i->False:=λ q I c=>by (exact baC (ak q I) (λ bu=>by (exact a5 q bu c)) (λ bu=>GE))
 have d:=(d.H M (λ I=>a6 _ I rfl)).O z;have a8:∀ q∈τ.ai YC,q=i->False:=λ q I c=>by (exact baC (ae q I) (λ bv=>by (exact a6 q bv c)) (λ bv=>GE))
 have d:=(d.H Q (λ I=>a8 _ I rfl)).O A;have a9:∀ q∈τ.ai YE,q=i->False:=λ q I c=>by (exact baC (af q I) (λ bC=>by (exact a8 q bC c)) (λ bC=>GE))
 have d:=(d.H t (λ I=>a9 _ I rfl)).O O;have ba:∀ q∈τ.ai YF,q=i->False:=λ q I c=>by (exact baC (ah q I) (λ bE=>by (exact a9 q bE c)) (λ bE=>GE))
 have d:=(d.H Wz (λ I=>ba _ I rfl)).O Yl;have bP:∀ q∈τ.ai an,q=i->False:=λ q I c=>by (exact baC (bg q I) (λ bF=>by (exact ba q bF c)) (λ bF=>GE))
 have d:=d.H am (λ I=>bP _ I rfl);refine di (λ bJ bH aI=>∃ k:Nat,bH=[(0,.pointer (bd S)),(4,.pointer (bd i)),(35,.slice YH ((ag.fm p).length) aK),(36,J 10),(37,J (k:Int))]/\bJ=10-k/\Ext w aI/\aO aI S (ag.cells a W) 186 (0,0)/\aO aI i [J 0,J 0] 41 (0,0)/\aw.ce.aM 41 16 aI w.heap.size (τ.ai YH) YH aK ((ag.fm p))/\(k<=10)/\(∀ j,j<k->W.HH ((ag.fm p).getD j default)=false)) _ _ ⟨0,Z,Z,b1,f,d,m,GE,λ j aB=>absurd aB GE⟩ (.cons Z (.cons Z (.cons Z (.cons (xE Z) (c' Z Z Z))))) ?_;rintro dp cV cN ⟨k,rfl,rfl,Yu,f,d,m,au,iy⟩;have cl:=f.lt;have cK:=d.lt;have bW:=b4 m.lt;refine ar<|cF Z Z<|ax<|av<|?_;refine c7 Z (λ bQ=>?_) (λ bQ=>?_)
 .refine bf<|av<|bp<|ar<|κ (bD k underlying25 bq Z Z (m.bv.Y (aL k (by show k<10;omega))) Z (by show k<10;omega))<|κ (aq Z (τ.aF.G ng (by rw[<-m.bv.Y (aL k (by show k<10;omega))];exact m.bv) (cg (l:=(ag.fm p)) (u:=default) (by show k<10;omega)) bS bq))<|cy pk Z λ cO b8 C dq o=>?_;have b3:=Φ Yu C;refine ck Z Z o Z bq Z Z λ cC y o=>?_;have bN:=Ext.H b3 y bn;refine ax<|av<|?_;refine c_ [(4,0),(5,0),(6,0)] [0,1,2,3,4,5,6,7,8,9,10,11] ?_;refine bt Z Z<|aA Z (λ _=>cB Z)<|aA Z (λ _=>aj p2 Z)<|aA Z (λ _=>aj lA Z)<|?_;have f:=(f.O C).H y aJ;refine dE Z (λ _ x=>aq Z ((f.O x).Y [J W.am.O,J W.am.high,.slice a.P W.am.G.length a.p] gA gB Z))<|dE Z (λ _ x=>aq Z ((o.O x).all bS bq))<|nQ Z Z uq Z (λ _ x=>abQ W.am ((ag.fm p).getD k default) a.P a.p _ (DI.be (bN.O x))) Z<|bt Z Z<|aA Z (λ _=>ex Z Z)<|aA Z (λ _=>ex Z Z)<|aA Z (λ _=>fh Z)<|aA Z (λ _=>fh Z)<|fn λ cP V=>?_;have Yv:=Φ bN V;refine a7<|aC Z<|κ (beq Z Z)<|vm Z<|er Z Z<|aR Z (λ g=>bne (gt g Z) Z)<|κ (cQ Z Z Z Z)<|vm Z<|er Z Z<|aR Z (λ g=>cB (gt g Z))<|aR Z (λ g=>aj p2 (gt g Z))<|aR Z (λ g=>aj fC (gt g Z))<|?_;have f:=f.O V;refine aR Z (λ g=>aq (gt g Z) (f.one gR Z))<|aR Z (λ g=>A3 Z Z)<|?_;have o:=o.O V;refine iD Z aa5 (λ g=>b6 (gt g Z) (b6 (gt g Z) Z)) (λ g=>aGh ((ag.fm p).getD k default) b8 a.T a.t W.ah _ (ub.be Yv) ⟨o.cell 0,o.cell 1⟩) λ cR D=>?_;have Yw:=Φ Yv D;refine aR Z (λ g=>dj (gt g Z))<|κ (cQ Z Z Z Z)<|ax<|?_;refine dB Z (λ ai=>?_) (λ ai=>?_)
  .rw[aq9 aZ.am]at ai;refine ar<|?_;have o:=o.O D;refine κ (aq Z (o.all bS bq))<|?_;have d:=((d.O C).H y aJ).O (Φ V D);refine ck Z Z d Z bq Z Z λ cD bU d=>?_;have bX:=Ext.H Yw bU bn;refine bc Z<|dO<|bR<|k1<|dO<|bR<|cJ (.cell Z (d.all bS bq) (.tmp Z .nil))<|?_;exact⟨by rw[aEQ GE iy ‹_›];rfl,bX⟩
  .rw[aq9 aZ.am]at ai;refine dP<|bK<|cW Z Z Z<|?_;have f:=f.O D;have eF:=(Φ V D);have d:=((d.O C).H y aJ).O eF;have m:=((m.O C).H y (bV bW)).O eF;exact cM ⟨k+1,Z,Z,Yw,f,d,m,GE,pC iy (by assumption)⟩
 .refine cI<|cH<|cU<|cG<|a7<|ar<|κ (v:=.agg #[J 0,J 0]) (ee Z)<|ck Z Z d Z bq Z Z λ cS HB d=>?_;have b5:=Ext.H Yu HB bn;refine bc Z<|cJ (.cell Z (d.all bS bq) (.tmp Z .nil))<|?_;exact⟨by rw[aEP (λ j aB=>iy j GE)];rfl,b5⟩
end
end Go.Proofs.YtooonebcoaleiaaGreat
