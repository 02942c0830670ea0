import Derived.Test.YtlikikpgmmkjbaaGreatHitS
set_option linter.unusedVariables false
set_option linter.unusedSimpArgs false
set_option maxRecDepth 100000
set_option maxHeartbeats 4000000
open Go.RowKit
namespace Go.Proofs.YtlikikpgmmkjbaaGreat
open Tryz
abbrev aV4:=@Classical.byContradiction
abbrev aXW:=@bne_iff_ne
section
theorem ao0:fa prog bS 22 3 8:=fa.lK (z:= .int .i64 0) (k:=1) underlying22 DE rfl rfl (by decide) (λ j u h=>Jn j u h)
theorem κ.aK.RT {α:Type} {R:κ α} {by_ c:Nat} {w w':World} {A:Option Addr} {l:List α} {F:List Nat} (h:R.aK by_ w A c l) (hp:R.Plain) (m:Mod F w w') (d:0<l.length→∀ q∈κ.ae A,q∉F):R.aK by_ w' A c l:=by
 obtain ⟨γ,aa,av,aV,ess,bJ,cg,ef⟩:=h;refine ⟨γ,aa,av,aV,ess,bJ.imp (λ es a _ h=>R.tr (R.tu (hp (B:=0) h) (by simp))),cg,λ aI=> ?_⟩;obtain ⟨b,o,rfl,hc⟩:=ef aI;refine ⟨b,o,Z,λ j u hu=> ?_⟩;have gz:=hc j u hu;have Φ:b<w.heap.size:=by
  apply aV4;intro hn;have:w.heap[b]? =none:=aVi (by omega);simp [World.cell?,this] at gz
 have aw:=m.block b Φ (d aI b (by simp [κ.ae]));simp only [World.cell?] at gz ⊢;rw [aw];exact gz
theorem P9 {w:World} {A:Option Addr} {c:Nat} {T:List ay} (h:ay.rep.aK 16 w A c T) (k:Nat):(T.getD k default).ok:=by
 rw [aUi];cases aF:T[k]? with
 | none=>exact ⟨by decide,by decide⟩
 | some t=>exact h.AM (λ fp=>(show _∧_ from fp).2) t (aUW aF)
theorem SQ {t:bd} (h:t.ok):t.spot.ok:=by
 obtain ⟨γ,aa,av,aV,bJ,cg,ef⟩:=h;exact ⟨aV,bJ⟩
theorem aET {t:bd} {c:ay} (h:t.ok) (hc:c.ok):(t.bp c).ok:=by
 obtain ⟨γ,aa,av,aV,bJ,cg,ef⟩:=h;exact ⟨γ,aa,av,hc.1,hc.2,cg,ef⟩
theorem avK {l:List dz} {id:Int} (h:¬ eJ l id<0):0≤eJ l id∧(eJ l id).toNat<l.length:=by
 rcases avJ l id with ⟨γ,_⟩ | ⟨k,γ,aa,_⟩<;>omega
theorem al5 {f:aE} {l:List dz} {T:List bd} {k:Nat} (h:eJ l (T.getD k default).id<0):q5 f l T k=none:=by unfold q5;rw [aUz h]
theorem aEy {f:aE} {l:List dz} {T:List bd} {k:Nat} (aI:0≤eJ l (T.getD k default).id)
  (h:(hB f (T.getD k default).spot (l.getD (eJ l (T.getD k default).id).toNat default).bp≠0∨((fY f (T.getD k default).spot (l.getD (eJ l (T.getD k default).id).toNat default).bp).length:Int)<2)∨0<jl T ((fY f (T.getD k default).spot (l.getD (eJ l (T.getD k default).id).toNat default).bp).getD 1 default)):q5 f l T k=none:=by
 unfold q5;rw [aUr (by omega)];split
 ·rfl
 ·split
  ·rfl
  ·rw [aUz];rcases h with (h | h) | h
   ·contradiction
   ·omega
   ·exact h
theorem aEz {f:aE} {l:List dz} {T:List bd} {k:Nat} (aI:0≤eJ l (T.getD k default).id)
  (h:(hB f (T.getD k default).spot (l.getD (eJ l (T.getD k default).id).toNat default).bp=0∧2≤((fY f (T.getD k default).spot (l.getD (eJ l (T.getD k default).id).toNat default).bp).length:Int))∧jl T ((fY f (T.getD k default).spot (l.getD (eJ l (T.getD k default).id).toNat default).bp).getD 1 default)≤0):
  q5 f l T k=some ((fY f (T.getD k default).spot (l.getD (eJ l (T.getD k default).id).toNat default).bp).getD 1 default):=by
 obtain ⟨⟨γ,aa⟩,av⟩:=h;unfold q5;rw [aUr (by omega),aUr (by simpa using γ),aUr (by omega),aUr (by omega)]
theorem κ.aK.aAV {α:Type} {R:κ α} {by_ c:Nat} {w:World} {A:Option Addr} {l:List α} (h:R.aK by_ w A c l) (hs:0<R.size) (aI:0<l.length):∀ q∈κ.ae A,q<w.heap.size:=by
 obtain ⟨γ,aa,av,aV,ess,bJ,cg,ef⟩:=h;obtain ⟨b,o,rfl,hc⟩:=ef aI;intro q I;obtain rfl:q=b:=by simpa [κ.ae] using I
 have aB:0<ess.flatten.length:=by rw [cg];exact Nat.mul_pos aI hs
 have gz:=hc 0 _ (aUk aB);apply aV4;intro hn;have:w.heap[q]? =none:=aVi (by omega);simp [World.cell?,this] at gz
theorem azu (ff:FuncId) (cs:List Value) (p:dz→Bool) (A:Option Addr) (c:Nat) (l:List dz) (w:World) (aB:dz.rep.aK 24 w A c l) (nC:Enters prog ff) (eg:∀ x∈l,∀ w',Ext w w'→Calls prog ff (([.agg #[.int .i64 x.id, .int .i64 x.bp.x, .int .i64 x.bp.y]]:List Value)++cs).toArray w' λ e lN=>e= .returned (.bool (p x))∧Ext w' lN):
  Calls prog 135 #[.slice A l.length c, .func (.func ff) #[] cs.toArray] w (λ e w'=>e= .returned (.int .i64 (gA p l))∧Ext w w'):=by
 have qR:=aB.dT;refine cl (n:=19) func135 Z Z Z ?_;refine ai<|va Z<|ag<|az<|ai<|vm Z<|J (cj underlying124 Z)<|vm Z<|ag<|bA<| ?_;refine dX (λ b4 b2 aG=>∃ k:Nat,b2= [(0, .slice A l.length c),(1, .func (.func ff) #[] cs.toArray),(7, .int .i64 (l.length:Int)),(8, .int .i64 (k:Int))]∧b4=l.length - k∧Ext w aG∧(k≤l.length)∧(∀ i,i<k→p (l.getD i default)=false)) _ _ ⟨0,Z,Z,(Ext.bK w),by omega,λ i aq=>by omega⟩ (.cons Z (.cons Z (.cons Z (.cons (bO Z) .nil)))) ?_;rintro Nr Kl cW ⟨k,rfl,rfl,bk,aw,aS⟩;have:=bk.size;refine ai<|J (blt Z Z)<|ag<|az<| ?_;refine dw Z (λ lY=> ?_) (λ lY=> ?_)
 ·refine bt<|az<|bA<|ai<|vm Z<|va Z<|ag<|ai<|vm Z<|vm Z<|vm Z<|J (bY k underlying124 V6 Z Z ((aB.keep bk).bu (aX k)) Z (by omega))<|J (ak Z (κ.aK.hb agZ ((aB.keep bk).cr (aX k)) (dH (l:=l) (u:=default) (by omega)) auD V6))<|HK nC Z Z Z ((eg (l.getD k default) (jT (by omega)) _ bk).mono ?_);rintro e JN ⟨rfl,yu⟩;refine ⟨_,Z, ?_⟩;have:=yu.size;have mE:=τ bk yu;refine ag<| ?_;refine ee Z (λ lZ=> ?_) (λ lZ=> ?_)
  ·refine ai<|vm Z<|va Z<|ag<|rt<|eK<|bT<|my<|eK<|bT<|bb (.tmp Z .nil)<| ?_;exact ⟨by have e:=RP (p:=p) (l:=l) (d:=default) (k:=k) (by omega) lZ aS;rw [e];rfl,mE⟩
  ·refine fv<|bX<|aT<|rg<|J (bad Z Z (bH (by omega)))<|vm Z<|nl<| ?_;exact cO _ _ ⟨k+1,Z,Z,mE,by omega,th aS lZ⟩ (by omega) (.cons Z (.cons Z (.cons Z (.cons (bO Z) .nil))))
 ·refine c_<|c9<|dn<|c8<|aT<|ai<|va Z<|ag<|rt<|bb (.tmp Z .nil)<| ?_;exact ⟨by have e:=RO (p:=p) (l:=l) (d:=default) (λ i aq=>aS i (by omega));rw [e];rfl,bk⟩
theorem aBd (x:dz) (b k:Nat) (A:Option Addr) (c:Nat) (T:List bd) (w:World) (aJ:aN w b [.pointer (some ⟨cu A,du A+k * 7,none⟩)] 227 (0,0)) (b7:bd.rep.aK 56 w A c T) (aw:k<T.length):
  Calls prog 136 #[.agg #[.int .i64 x.id, .int .i64 x.bp.x, .int .i64 x.bp.y], .pointer (some ⟨b,0,none⟩)] w (λ e w'=>e= .returned (.bool (x.id == (T.getD k default).id))∧Ext w w'):=by
 have yd:=aJ.lt;refine cl (n:=11) func136 Z Z Z ?_;refine ai<|cI Z Z Z Z λ cW bw a7 eA ab=> ?_;have:=a7.size;have bk:=τ (Ext.bK w) a7;have eG:=ab.lt;refine va Z<|ag<|az<| ?_;refine rd [(1,0),(2,0),(5,0)] [0,1,2,3,4,5,6,7] (by kernel_rfl) (by kernel_rfl) ?_;refine ar Z (λ _=>au auE Z)<|bG Z (λ _ x=>ak Z ((ab.later x).one bf Z))<| ?_;have aJ:=aJ.later a7;refine bG Z (λ _ x=>ak Z ((aJ.later x).one H0 Z))<|ar Z (λ _=>b6 Z)<|ar Z (λ _=>au HW Z)<|bG Z (λ _ x=>ak Z (κ.aK.j9 jH ((b7.keep (τ bk x)).cr (aX k)) 0 (dH (l:=T) (u:=default) (by omega)) Z bf))<|ar Z (λ _=>beq Z Z)<|ar Z (λ _=>fA Z)<|fn λ eM cL=> ?_;have:=cL.size;have bR:=τ bk cL;refine aT<|rt<|bb (.tmp Z .nil)<| ?_;exact ⟨Z,bR⟩
theorem aBc (b k:Nat) (l:List dz) (A:Option Addr) (c:Nat) (PA:Option Addr) (tc:Nat) (T:List bd) (w:World) (aB:dz.rep.aK 24 w A c l) (aJ:aN w b [.pointer (some ⟨cu PA,du PA+k * 7,none⟩)] 227 (0,0)) (b7:bd.rep.aK 56 w PA tc T) (aw:k<T.length):
  Calls prog 135 #[.slice A l.length c, .func (.func 136) #[] #[.pointer (some ⟨b,0,none⟩)]] w (λ e w'=>e= .returned (.int .i64 (eJ l (T.getD k default).id))∧Ext w w'):=
 azu 136 [.pointer (some ⟨b,0,none⟩)] (λ g=>g.id == (T.getD k default).id) A c l w aB auF (λ x hx w' h=>aBd x b k PA tc T w' (aJ.later h) (b7.keep h) aw)
theorem aEH (w0:World) (a:aj.cq) (W:aj) (A:Option Addr) (c:Nat) (l:List dz) (w:World) (cn:bS.aK 8 w a.P a.p W.field.aY) (b7:bd.rep.aD 66 56 w w0.heap.size (κ.ae a.T) a.T a.t W.ao) (axa:∀ q∈κ.ae a.P,q∉κ.ae a.T) (aB:dz.rep.aK 24 w A c l) (Iw:0<l.length→∀ q∈κ.ae A,q∉κ.ae a.T) (FU:W.ao.length≤100000):
  Calls prog 98 #[.agg ((aj.cells a W).toArray), .slice A l.length c] w (λ e w'=>∃ bL b_,e= .returned (.slice bL (W.l7 l).2.length b_)∧bS.aD 3 8 w' w.heap.size (κ.ae bL) bL b_ (W.l7 l).2∧bd.rep.aD 66 56 w' w0.heap.size (κ.ae a.T) a.T a.t (W.l7 l).1.ao∧Mod (κ.ae a.T) w w'):=by
 have ll:=λ q I=>(b7.lt q I).2;have aLl:∀ q∈κ.ae a.T,w0.heap.size≤q:=λ q I=>(b7.lt q I).1;have ahM:=Z2 b7.has;refine cl (n:=110) func98 Z Z Z ?_;refine ai<|cI Z Z Z Z λ cW bw a7 eA ab=> ?_;have:=a7.size;have bk:=(Mod.bK (κ.ae a.T) w).trans (Mod.bF a7);have eG:=ab.lt;refine va Z<|ag<|ai<|YX Z λ eM zI bo iq ach=> ?_;have:=bo.size;have bR:=bk.trans (Mod.bF bo);have ia:=ach.lt;have an6:=kH.of_nil ach;refine va Z<|ag<|az<|ai<|J (au iO Z)<| ?_;have ab:=ab.later bo;refine J (ak Z (ab.one j7 Z))<|J (cj underlying26 Z)<|vm Z<|ag<|bA<| ?_;have b7:=b7.later (τ a7 bo);refine dX (λ b4 b2 aG=>∃ k:Nat,b2= [(1, .slice A l.length c),(2, .pointer (some ⟨bw,0,none⟩)),(4, .slice none 0 0),(5, .map (some zI)),(17, .slice a.T W.ao.length a.t),(18, .int .i64 (W.ao.length:Int)),(19, .int .i64 (k:Int))]∧b4=W.ao.length - k∧Mod (κ.ae a.T) w aG∧bd.rep.aD 66 56 aG w0.heap.size (κ.ae a.T) a.T a.t (W.ao)∧aN aG bw (aj.cells a W) 28 (0,0)∧kH aG zI (jl (W.ao.take k))∧(k≤W.ao.length)) _ _ ⟨0,Z,Z,bR,b7,ab,an6,by omega⟩ (.cons Z (.cons Z (.cons Z (.cons Z (.cons Z (.cons Z (.cons (bO Z) .nil))))))) ?_;rintro p8 aIH ym ⟨k,rfl,rfl,kC,b7,ab,gZ,aw⟩;have:=kC.size;have N5:=λ q I=>(b7.lt q I).2;have oz:=ab.lt;have ak7:=gZ.lt;refine ai<|J (blt Z Z)<|ag<|az<| ?_;refine dw Z (λ uE=> ?_) (λ uE=> ?_)
 ·refine bt<|az<|bA<|ai<|J (bY k underlying26 jd Z Z (b7.has.bu (aX k)) Z (by omega))<|J (ak Z (κ.aK.hb jH (b7.has.cr (aX k)) (dH (l:=W.ao) (u:=default) (by omega)) y8 jd))<|al Z Ln Z Z λ u7 xp cB ajG eQ=> ?_;have:=cB.size;have lS:=kC.trans (Mod.bF cB);have ak8:=eQ.lt;refine st (new:= [.int .i64 ((W.ao.getD k default).id), .int .i64 ((W.ao.getD k default).owner), .int .i64 ((W.ao.getD k default).kind), .int .i64 ((W.ao.getD k default).spot.x), .int .i64 ((W.ao.getD k default).spot.y), .int .i64 ((W.ao.getD k default).dc), .int .i64 ((W.ao.getD k default).load)]) Z Z eQ Z jd Z Z Z λ u9 gW eQ=> ?_;have:=gW.size;have js:=lS.md gW (λ q I=> .inr (by have:=aUg.1 I;omega));refine ag<| ?_;have gZ:=gZ.later cB;have gZ:=gZ.mod gW aQ;refine Zw zI (jl (W.ao.take k)) [(2,0),(3,0),(5,2),(7,3)] [0,1,2,3,4,5,6,7] (by kernel_rfl) (by kernel_rfl) ?_;refine s0 Z Z (λ _=>aM Z) Z<|s0 Z Z (λ _=>au uA Z) Z<|C_ Z Z (λ _ x=>ak Z ((eQ.mod x.1 aQ).par [.int .i64 ((W.ao.getD k default).spot.x), .int .i64 ((W.ao.getD k default).spot.y)] cm bW Z)) Z<|C_ Z Z (λ _ x=>RY (p:=(W.ao.getD k default).spot) (x.2 gZ) (SQ (ahM k)) Z Z) Z<|s0 Z Z (λ _=>bad Z Z (bH ((by have γ:=Sl (W.ao.take k) ((W.ao.getD k default).spot);(try rw [aUm] at γ);omega)))) Z<|Wp Z Z Z λ JK kf Q hK=>meC (p:=(W.ao.getD k default).spot) (gZ.later kf) (SQ (ahM k)) Z Z Z λ BU aRy kd Uc=>hK _ _ ⟨(eS.bF kf).trans ⟨kd,λ _=>Uc.map⟩, ?_⟩;have:=kf.size;have qq:=js.trans (Mod.bF kf);have:=kd.size;have k4:=qq.md kd (λ q I=> .inr (by have:=aUg.1 I;omega));have an7:=Uc.map;have aDg:=an7.lt;refine s0 Z Z (λ _=>ex Z Z) Z<|Wd Z Z Z λ JM oG Q hK=>V_ (Uc.later oG) Z Z Z λ GL Gg O8=>hK _ _ ?_;have:=oG.size;have vq:=k4.trans (Mod.bF oG);have:=Gg.size;have tQ:=vq.md Gg (λ q I=> .inr (by have:=aUg.1 I;omega));have ala:=O8.lt;refine Wm λ Oh jZ=> ?_;have:=jZ.size;have yw:=tQ.trans (Mod.bF jZ);refine bX<|aT<|rg<|J (bad Z Z (bH (by omega)))<|vm Z<|nl<| ?_;have b7:=b7.later cB;have b7:=b7.mod gW (λ q I h=>by have Φ:=aUg.1 h;exfalso;(have:=N5 q I;have:=ll q I;omega));have b7:=b7.later kf;have b7:=b7.mod kd (λ q I h=>by have Φ:=aUg.1 h;exfalso;(have:=N5 q I;have:=ll q I;omega));have b7:=b7.later oG;have b7:=b7.mod Gg (λ q I h=>by have Φ:=aUg.1 h;exfalso;(have:=N5 q I;have:=ll q I;omega));have b7:=b7.later jZ;have ab:=ab.later cB;have ab:=ab.mod gW aQ;have ab:=ab.later kf;have ab:=ab.mod kd aQ;have ab:=ab.later oG;have ab:=ab.mod Gg aQ;have ab:=ab.later jZ;have O8:=O8.later jZ;exact cO _ _ ⟨k+1,Z,Z,yw,b7,ab,(by rw [aBQ (by omega)];exact O8),by omega⟩ (by omega) (.cons Z (.cons Z (.cons Z (.cons Z (.cons Z (.cons Z (.cons (bO Z) .nil)))))))
 ·refine c_<|c9<|dn<|c8<|aT<|ai<|va Z<|ag<|az<|ai<|J (au iO Z)<|J (ak Z (ab.one j7 Z))<|J (cj underlying26 Z)<|vm Z<|ag<|bA<| ?_;have mS:k=W.ao.length:=by omega
  subst mS;have Uw:kH ym zI (jl W.ao):=by have h:=gZ;rw [aVd] at h;exact h
  refine dX (λ b4 b2 aG=>∃ k:Nat,∃ T:List bd,∃ M:List Int,∃ yD:Option Addr,∃ HI:Nat,b2= [(1, .slice A l.length c),(2, .pointer (some ⟨bw,0,none⟩)),(4, .slice none 0 0),(5, .map (some zI)),(8, .slice yD M.length HI),(33, .int .i64 (W.ao.length:Int)),(34, .int .i64 (k:Int))]∧b4=W.ao.length - k∧Mod (κ.ae a.T) w aG∧aN aG bw (aj.cells a W) 28 (0,0)∧kH aG zI (jl T)∧bd.rep.aD 66 56 aG w0.heap.size (κ.ae a.T) a.T a.t (T)∧bS.aD 3 8 aG w.heap.size (κ.ae yD) yD HI (M)∧(k≤W.ao.length)∧(jX W.field l W.ao k=(T,M))∧(T.length=W.ao.length)∧(M.length≤k)∧(∀ q∈κ.ae a.T,q=bw→False)∧(∀ q∈κ.ae a.T,q=zI→False)∧(∀ q∈κ.ae yD,q=bw→False)∧(∀ q∈κ.ae yD,q=zI→False)∧(∀ q∈κ.ae yD,q∈κ.ae a.T→False)) _ _ ⟨0,W.ao, [],none,0,Z,Z,kC,ab,Uw,b7,(κ.aD.nil _),by omega,rfl,rfl,by simp,(λ q I Φ=>by (have:=N5 q I;have:=ll q I;omega)),(λ q I Φ=>by (have:=N5 q I;have:=ll q I;omega)),(λ q I Φ=>by (simp [κ.ae] at I)),(λ q I Φ=>by (simp [κ.ae] at I)),(λ q I Φ=>by (simp [κ.ae] at I))⟩ (.cons Z (.cons Z (.cons Z (.cons Z (.cons Z (.cons Z (.cons (bO Z) .nil))))))) ?_;rintro zz aI5 Oj ⟨k,T,M,yD,HI,rfl,rfl,sC,ab,M2,fl,gm,aw,hS,WX,aLy,nA,rL,ux,oc,od⟩;have:=sC.size;have aQ6:=ab.lt;have aQ7:=M2.lt;have S7:=λ q I=>(fl.lt q I).2;have S8:=λ q I=>(gm.lt q I).2;have Rx:=Z2 fl.has;refine ai<|J (blt Z Z)<|ag<|az<| ?_;refine dw Z (λ FC=> ?_) (λ FC=> ?_)
  ·refine bt<|az<|bA<|ai<|vm Z<|va Z<|ag<|ai<|J (au iO Z)<|J (ak Z (ab.one j7 Z))<|vm Z<|J (bY k underlying26 jd Z Z (fl.has.bu (aX k)) Z (by omega))<|al Z auG Z Z λ Ok adn gJ aOl gY=> ?_;have:=gJ.size;have yy:=sC.trans (Mod.bF gJ);have aRc:=gY.lt;refine st (new:= [.pointer (some ⟨cu a.T,du a.T+k * 7,none⟩)]) Z Z gY Z as1 Z Z Z λ Tt zB gY=> ?_;have:=zB.size;have tS:=yy.md zB (λ q I=> .inr (by have:=aUg.1 I;omega));refine ag<|ai<|vm Z<|J (I_ Z Z)<| ?_;have fl:=fl.later gJ;have fl:=fl.mod zB (b' S7);refine ca as2 Z Z ((aBc adn k l A c a.T a.t T _ (aB.RT (κ.dE).1 tS Iw) gY fl.has (by omega)).mono ?_);rintro e aar ⟨rfl,h3⟩;refine ⟨_,Z, ?_⟩;have:=h3.size;have vv:=tS.trans (Mod.bF h3);refine va Z<|ag<|az<|ai<|vm Z<|J (blt Z Z)<|ag<| ?_;refine dw Z (λ uF=> ?_) (λ uF=> ?_)
   ·refine c_<|c9<|c8<|aT<|rg<|J (bad Z Z (bH (by omega)))<|vm Z<|nl<| ?_;have ab:=ab.later gJ;have ab:=ab.mod zB aQ;have ab:=ab.later h3;have M2:=M2.later gJ;have M2:=M2.mod zB aQ;have M2:=M2.later h3;have fl:=fl.later h3;have gm:=gm.later gJ;have gm:=gm.mod zB (b' S8);have gm:=gm.later h3;exact cO _ _ ⟨k+1,T,M,yD,HI,Z,Z,vv,ab,M2,fl,gm,by omega,GB hS (al5 uF),WX,by omega,(λ q I Φ=>by (exact nA q I Φ)),(λ q I Φ=>by (exact rL q I Φ)),(λ q I Φ=>by (exact ux q I Φ)),(λ q I Φ=>by (exact oc q I Φ)),(λ q I Φ=>by (exact od q I Φ))⟩ (by omega) (.cons Z (.cons Z (.cons Z (.cons Z (.cons Z (.cons Z (.cons (bO Z) .nil)))))))
   ·obtain ⟨Dl,Xy⟩:=avK uF;refine bt<|az<| ?_;refine rd [(1,0),(2,0),(5,0),(10,0),(11,2)] [0,1,2,3,4,5,6,7,8,9,10,11,12,13,14,15,16,17,18] (by kernel_rfl) (by kernel_rfl) ?_;refine ar Z (λ _=>au rS Z)<| ?_;have ab:=ab.later gJ;have ab:=ab.mod zB aQ;have ab:=ab.later h3;refine bG Z (λ _ x=>ak Z ((ab.later x).par [.int .i64 W.field.wide, .int .i64 W.field.high, .slice a.P W.field.aY.length a.p] lW lX Z))<| ?_;have gY:=gY.later h3;refine bG Z (λ _ x=>ak Z ((gY.later x).one H0 Z))<|ar Z (λ _=>b6 Z)<|ar Z (λ _=>au uA Z)<| ?_;have fl:=fl.later h3;refine bG Z (λ _ x=>ak Z (κ.aK.part jH ((fl.later x).has.cr (aX k)) 3 (ds:= [.int .i64 ((T.getD k default).spot.x), .int .i64 ((T.getD k default).spot.y)]) (dH (l:=T) (u:=default) (by omega)) Z cm bW))<|ar Z (λ _=>aM Z)<|ar Z (λ _=>aM Z)<|ar Z (λ _=>bY ((eJ l (T.getD k default).id).toNat) underlying124 V6 Z Z ((aB.RT (κ.dE).1 vv Iw).bu (aX ((eJ l (T.getD k default).id).toNat))) (by omega) (by omega))<|ar Z (λ _=>au as3 Z)<|bG Z (λ _ x=>ak Z (κ.aK.part agZ ((aB.RT (κ.dE).1 (vv.trans (Mod.bF x)) Iw).cr (aX ((eJ l (T.getD k default).id).toNat))) 1 (ds:= [.int .i64 ((l.getD ((eJ l (T.getD k default).id).toNat) default).bp.x), .int .i64 ((l.getD ((eJ l (T.getD k default).id).toNat) default).bp.y)]) (dH (l:=l) (u:=default) (by omega)) Z cm bW))<|fS Z Z Z λ BX fE Q hK=>ca as4 Z Z ((aCv W.field ((T.getD k default).spot) ((l.getD ((eJ l (T.getD k default).id).toNat) default).bp) _ _ _ (cn.RT (κ.dE).1 (vv.trans (Mod.bF fE)) (λ _=>axa))).mono ?_);rintro e Tw ⟨aJz,aUf,rfl,n8,n1⟩;refine ⟨_,Z,hK _ _ ⟨τ fE n1, ?_⟩⟩;have:=fE.size;have wY:=vv.trans (Mod.bF fE);have:=n1.size;have Ci:=wY.trans (Mod.bF n1);have aSJ:=λ q I=>(n8.lt q I).2;have ajT:=λ q I=>(n8.lt q I).1;have RJ:=n8.has;refine ar Z (λ _=>aM Z)<|ar Z (λ _=>ex Z Z)<|ar Z (λ _=>ex Z Z)<|ar Z (λ _=>ex Z Z)<|ar Z (λ _=>fA Z)<|ar Z (λ _=>fA Z)<|ar Z (λ _=>fA Z)<|fn λ Om kA=> ?_;have:=kA.size;have wZ:=Ci.trans (Mod.bF kA);refine aT<|az<|ai<|vm Z<|J (bne Z Z)<|vm Z<|br Z Z Z Z (λ hc=>aM Z) Z<|br Z Z Z Z (λ hc=>cj underlying25 (gt hc Z)) Z<|br Z Z Z Z (λ hc=>blt (gt hc Z) Z) Z<|J (fM Z Z Z Z)<|vm Z<|br Z Z Z Z (λ hc=>aM Z) Z<|br Z Z Z Z (λ hc=>aM Z) Z<| ?_;have n8:=n8.later kA;refine br Z Z Z Z (λ hc=>bY 1 underlying25 bW (gt hc Z) Z (n8.has.bu (aX 1 (by (try simp only [cH] at hc);omega))) Z (by (try simp only [cH] at hc);omega)) Z<|br Z Z Z Z (λ hc=>ak (gt hc Z) (κ.aK.hb Be (n8.has.cr (aX 1 (by (try simp only [cH] at hc);omega))) (dH (l:=fY W.field ((T.getD k default).spot) ((l.getD ((eJ l (T.getD k default).id).toNat) default).bp)) (u:=default) (by (try simp only [cH] at hc);omega)) cm bW)) Z<| ?_;have M2:=M2.later gJ;have M2:=M2.mod zB aQ;have M2:=M2.later (τ h3 (τ fE (τ n1 kA)));refine br Z Z Z Z (λ hc=>RY (p:=(fY W.field ((T.getD k default).spot) ((l.getD ((eJ l (T.getD k default).id).toNat) default).bp)).getD 1 default) M2 (P9 RJ 1) (gt hc Z) (gt hc Z)) Z<|br Z Z Z Z (λ hc=>iK (gt hc Z) Z) Z<|J (fM Z Z Z Z)<|ag<| ?_;refine ee Z (λ LV=> ?_) (λ LV=> ?_)
    ·simp only [cH] at LV;refine c_<|c9<|c8<|aT<|rg<|J (bad Z Z (bH (by omega)))<|vm Z<|nl<| ?_;have ab:=ab.later (τ fE (τ n1 kA));have fl:=fl.later (τ fE (τ n1 kA));have gm:=gm.later gJ;have gm:=gm.mod zB (b' S8);have gm:=gm.later (τ h3 (τ fE (τ n1 kA)));exact cO _ _ ⟨k+1,T,M,yD,HI,Z,Z,wZ,ab,M2,fl,gm,by omega,GB hS (aEy (by omega) LV),WX,by omega,(λ q I Φ=>by (exact nA q I Φ)),(λ q I Φ=>by (exact rL q I Φ)),(λ q I Φ=>by (exact ux q I Φ)),(λ q I Φ=>by (exact oc q I Φ)),(λ q I Φ=>by (exact od q I Φ))⟩ (by omega) (.cons Z (.cons Z (.cons Z (.cons Z (.cons Z (.cons Z (.cons (bO Z) .nil)))))))
    ·simp only [cH] at LV;refine bt<|az<| ?_;refine Zw zI (jl T) [(1,0),(4,0),(5,0),(7,2),(9,3)] [0,1,2,3,4,5,6,7,8,9] (by kernel_rfl) (by kernel_rfl) ?_;refine s0 Z Z (λ _=>aM Z) Z<| ?_;have gY:=gY.later (τ fE (τ n1 kA));refine C_ Z Z (λ _ x=>ak Z ((gY.mod x.1 aQ).one H0 Z)) Z<|s0 Z Z (λ _=>b6 Z) Z<|s0 Z Z (λ _=>au uA Z) Z<| ?_;have fl:=fl.later (τ fE (τ n1 kA));refine C_ Z Z (λ _ x=>ak Z (κ.aK.part jH ((fl.mod x.1 (λ q I h=>by have Φ:=aUg.1 h;exfalso;(exact rL q I Φ))).has.cr (aX k)) 3 (ds:= [.int .i64 ((T.getD k default).spot.x), .int .i64 ((T.getD k default).spot.y)]) (dH (l:=T) (u:=default) (by omega)) Z cm bW)) Z<|C_ Z Z (λ _ x=>RY (p:=(T.getD k default).spot) (x.2 M2) (SQ (Rx k)) Z Z) Z<|s0 Z Z (λ _=>mi Z Z (bH ((by have γ:=Sl T ((T.getD k default).spot);(try rw [aUm] at γ);omega)))) Z<|Wp Z Z Z λ aau l' Q hK=>meC (p:=(T.getD k default).spot) (M2.later l') (SQ (Rx k)) Z Z Z λ aF8 aRw l2 Ua=>hK _ _ ⟨(eS.bF l').trans ⟨l2,λ _=>Ua.map⟩, ?_⟩;have:=l'.size;have G_:=wZ.trans (Mod.bF l');have:=l2.size;have TM:=G_.md l2 (λ q I=> .inr (by have:=aUg.1 I;omega));have an4:=Ua.map;have aP8:=an4.lt;refine s0 Z Z (λ _=>ex Z Z) Z<|Wd Z Z Z λ aGa jY Q hK=>V_ (Ua.later jY) Z Z Z λ aGb uS Ao=>hK _ _ ?_;have:=jY.size;have aaD:=TM.trans (Mod.bF jY);have:=uS.size;have aaE:=aaD.md uS (λ q I=> .inr (by have:=aUg.1 I;omega));have aQb:=Ao.lt;refine Wm λ aah En=> ?_;have:=En.size;have Ad:=aaE.trans (Mod.bF En);refine aT<|az<| ?_;refine rd [(0,0),(3,0),(6,3)] [0,1,2,3,4,5,6] (by kernel_rfl) (by kernel_rfl) ?_;have gY:=gY.later l';have gY:=gY.mod l2 aQ;have gY:=gY.later jY;have gY:=gY.mod uS aQ;have gY:=gY.later En;refine bG Z (λ _ x=>ak Z ((gY.later x).one H0 Z))<|ar Z (λ _=>aM Z)<| ?_;have n8:=n8.later l';have n8:=n8.mod l2 (bC ajT);have n8:=n8.later jY;have n8:=n8.mod uS (bC ajT);have n8:=n8.later En;refine ar Z (λ _=>bY 1 underlying25 bW Z Z (n8.has.bu (aX 1)) Z (by omega))<|bG Z (λ _ x=>ak Z (κ.aK.hb Be ((n8.later x).has.cr (aX 1)) (dH (l:=fY W.field ((T.getD k default).spot) ((l.getD ((eJ l (T.getD k default).id).toNat) default).bp)) (u:=default) (by omega)) cm bW))<|ar Z (λ _=>b6 Z)<|ar Z (λ _=>au uA Z)<| ?_;have fl:=fl.later l';have fl:=fl.mod l2 (λ q I h=>by have Φ:=aUg.1 h;exfalso;(exact rL q I Φ));have fl:=fl.later jY;have fl:=fl.mod uS (λ q I h=>by have Φ:=aUg.1 h;exfalso;(exact rL q I Φ));have fl:=fl.later En;refine en Z Z Z λ aai GO Q hK=>aEk (q:=(T).getD k default) (q':=(⟨((T).getD k default).id,((T).getD k default).owner,((T).getD k default).kind,⟨((fY W.field ((T.getD k default).spot) ((l.getD ((eJ l (T.getD k default).id).toNat) default).bp)).getD 1 default).x,((fY W.field ((T.getD k default).spot) ((l.getD ((eJ l (T.getD k default).id).toNat) default).bp)).getD 1 default).y⟩,((T).getD k default).dc,((T).getD k default).load⟩:bd)) (i:=k) (j:=3) (old:= [.int .i64 (((T).getD k default).id), .int .i64 (((T).getD k default).owner), .int .i64 (((T).getD k default).kind), .int .i64 (((T).getD k default).spot.x), .int .i64 (((T).getD k default).spot.y), .int .i64 (((T).getD k default).dc), .int .i64 (((T).getD k default).load)]) (part:= [.int .i64 (((fY W.field ((T.getD k default).spot) ((l.getD ((eJ l (T.getD k default).id).toNat) default).bp)).getD 1 default).x), .int .i64 (((fY W.field ((T.getD k default).spot) ((l.getD ((eJ l (T.getD k default).id).toNat) default).bp)).getD 1 default).y)]) (es:= [.int .i64 (((T).getD k default).id), .int .i64 (((T).getD k default).owner), .int .i64 (((T).getD k default).kind), .int .i64 (((fY W.field ((T.getD k default).spot) ((l.getD ((eJ l (T.getD k default).id).toNat) default).bp)).getD 1 default).x), .int .i64 (((fY W.field ((T.getD k default).spot) ((l.getD ((eJ l (T.getD k default).id).toNat) default).bp)).getD 1 default).y), .int .i64 (((T).getD k default).dc), .int .i64 (((T).getD k default).load)]) (fl.later GO) κ.dE (dH (l:=T) (u:=default) (by omega)) jH Z Z Z Z Z Z (λ _=>⟨Z,(aET (Rx k) (P9 RJ 1))⟩) bW λ aS7 IY n9=>hK _ _ ?_;have:=GO.size;have wW:=Ad.trans (Mod.bF GO);have:=IY.size;have aHm:=wW.md IY (λ q I=> .inl I);refine fn λ aGe oF=> ?_;have:=oF.size;have aaG:=aHm.trans (Mod.bF oF);refine aT<|az<| ?_;have Ao:=Ao.later (τ En GO);have Ao:=Ao.mod IY (λ I=>rL _ I rfl);have Ao:=Ao.later oF;refine Zw zI (tE (jl T) ((T.getD k default).spot) (((jl T) ((T.getD k default).spot)) - 1)) [(1,0),(4,0),(5,0),(7,2),(9,3)] [0,1,2,3,4,5,6,7,8,9] (by kernel_rfl) (by kernel_rfl) ?_;refine s0 Z Z (λ _=>aM Z) Z<| ?_;have gY:=gY.later GO;have arL:∀ q∈κ.ae a.T,q=adn→False:=λ q I Φ=>by (have:=S7 q I;omega)
     have gY:=gY.mod IY (λ I=>arL _ I rfl);have gY:=gY.later oF;refine C_ Z Z (λ _ x=>ak Z ((gY.mod x.1 aQ).one H0 Z)) Z<|s0 Z Z (λ _=>b6 Z) Z<|s0 Z Z (λ _=>au uA Z) Z<| ?_;have n9:=n9.later oF;refine C_ Z Z (λ _ x=>ak Z (κ.aK.part jH ((n9.mod x.1 (λ q I h=>by have Φ:=aUg.1 h;exfalso;(exact rL q I Φ))).has.cr (aX k (by rw [aUs];omega))) 3 (ds:= [.int .i64 (((T.getD k default).bp ((fY W.field (T.getD k default).spot (l.getD (eJ l (T.getD k default).id).toNat default).bp).getD 1 default)).spot.x), .int .i64 (((T.getD k default).bp ((fY W.field (T.getD k default).spot (l.getD (eJ l (T.getD k default).id).toNat default).bp).getD 1 default)).spot.y)]) (aUG (by omega)) Z cm bW)) Z<|C_ Z Z (λ _ x=>RY (p:=((T.getD k default).bp ((fY W.field (T.getD k default).spot (l.getD (eJ l (T.getD k default).id).toNat default).bp).getD 1 default)).spot) (x.2 Ao) (P9 RJ 1) Z Z) Z<|s0 Z Z (λ _=>bad Z Z (bH ((by have aI:=Sl T ((T.getD k default).spot);have γ:=aFC (x:=((T.getD k default).spot)) (v:=(((jl T) ((T.getD k default).spot)) - 1)) (Sl T) (by omega) (by omega) (((T.getD k default).bp ((fY W.field (T.getD k default).spot (l.getD (eJ l (T.getD k default).id).toNat default).bp).getD 1 default)).spot);omega)))) Z<|Wp Z Z Z λ amO nh Q hK=>meC (p:=((T.getD k default).bp ((fY W.field (T.getD k default).spot (l.getD (eJ l (T.getD k default).id).toNat default).bp).getD 1 default)).spot) (Ao.later nh) (P9 RJ 1) Z Z Z λ amP aRx Gb Ub=>hK _ _ ⟨(eS.bF nh).trans ⟨Gb,λ _=>Ub.map⟩, ?_⟩;have:=nh.size;have Oz:=aaG.trans (Mod.bF nh);have:=Gb.size;have OA:=Oz.md Gb (λ q I=> .inr (by have:=aUg.1 I;omega));have an5:=Ub.map;have aQl:=an5.lt;refine s0 Z Z (λ _=>ex Z Z) Z<|Wd Z Z Z λ aGj GU Q hK=>V_ (Ub.later GU) Z Z Z λ aGk zt Hg=>hK _ _ ?_;have:=GU.size;have aaJ:=OA.trans (Mod.bF GU);have:=zt.size;have aaK:=aaJ.md zt (λ q I=> .inr (by have:=aUg.1 I;omega));have aQq:=Hg.lt;refine Wm λ aTe wO=> ?_;have:=wO.size;have aHt:=aaK.trans (Mod.bF wO);refine aT<|rg<|vm Z<| ?_;have gY:=gY.later nh;have gY:=gY.mod Gb aQ;have gY:=gY.later GU;have gY:=gY.mod zt aQ;have gY:=gY.later wO;refine J (ak Z (gY.one H0 Z))<|J (b6 Z)<|J (au HW Z)<| ?_;have n9:=n9.later nh;have n9:=n9.mod Gb (λ q I h=>by have Φ:=aUg.1 h;exfalso;(exact rL q I Φ));have n9:=n9.later GU;have n9:=n9.mod zt (λ q I h=>by have Φ:=aUg.1 h;exfalso;(exact rL q I Φ));have n9:=n9.later wO;refine J (ak Z (κ.aK.j9 jH (n9.has.cr (aX k (by rw [aUs];omega))) 0 (aUG (by omega)) Z bf))<|c6 (e:= 3) (cs:= [.int .i64 (((T.getD k default).bp ((fY W.field (T.getD k default).spot (l.getD (eJ l (T.getD k default).id).toNat default).bp).getD 1 default)).id)]) Z (λ _=>by kernel_rfl) Z λ amS ap5 qk aAd Ke=> ?_;have:=qk.size;have OC:=aHt.trans (Mod.bF qk);have aC5:=Ke.lt;have gm:=gm.later gJ;have gm:=gm.mod zB (b' S8);have gm:=gm.later (τ h3 (τ fE (τ n1 (τ kA l'))));have gm:=gm.mod l2 (λ q I h=>by have Φ:=aUg.1 h;exfalso;(exact oc q I Φ));have gm:=gm.later jY;have gm:=gm.mod uS (λ q I h=>by have Φ:=aUg.1 h;exfalso;(exact oc q I Φ));have gm:=gm.later (τ En GO);have gm:=gm.mod IY (λ q I h=>od q I h);have gm:=gm.later (τ oF nh);have gm:=gm.mod Gb (λ q I h=>by have Φ:=aUg.1 h;exfalso;(exact oc q I Φ));have gm:=gm.later GU;have gm:=gm.mod zt (λ q I h=>by have Φ:=aUg.1 h;exfalso;(exact oc q I Φ));have gm:=gm.later (τ wO qk);refine ap ao0 κ.dE gm (aN.gM (R:=bS) (by_:=8) (q:=((T.getD k default).bp ((fY W.field (T.getD k default).spot (l.getD (eJ l (T.getD k default).id).toNat default).bp).getD 1 default)).id) Ke ⟨Z,bN.2 (bN.1 (Rx k).1)⟩ (by decide)) Z Z (by simp only [aUn,aUt];omega) (by simp only [aUn,aUt];omega) (by omega) Z λ amT anM aqR q0 acJ Wu aPq=> ?_;have:=q0.size;have OD:=OC.md q0 (λ q I=> .inr ((λ q I=>aUP (by omega) (gm.lt q I).1) q I));have aFg:=λ q I=>(acJ.lt q I).2;have:=q0.size;refine va Z<|nl<|bX<|aT<|rg<|J (bad Z Z (bH (by omega)))<|vm Z<|nl<| ?_;have Ih:=NZ hS (aEz (by omega) LV);have ab:=ab.later (τ fE (τ n1 (τ kA l')));have ab:=ab.mod l2 aQ;have ab:=ab.later jY;have ab:=ab.mod uS aQ;have ab:=ab.later (τ En GO);have ab:=ab.mod IY (λ I=>nA _ I rfl);have ab:=ab.later (τ oF nh);have ab:=ab.mod Gb aQ;have ab:=ab.later GU;have ab:=ab.mod zt aQ;have ab:=ab.later (τ wO qk);have ab:=ab.mod q0 (λ I=>ux _ I rfl);have Hg:=Hg.later (τ wO qk);have Hg:=Hg.mod q0 (λ I=>oc _ I rfl);have n9:=n9.later qk;have n9:=n9.mod q0 (λ q I h=>od q h I);exact cO _ _ ⟨k+1,(T).set k ((⟨((T).getD k default).id,((T).getD k default).owner,((T).getD k default).kind,⟨((fY W.field ((T.getD k default).spot) ((l.getD ((eJ l (T.getD k default).id).toNat) default).bp)).getD 1 default).x,((fY W.field ((T.getD k default).spot) ((l.getD ((eJ l (T.getD k default).id).toNat) default).bp)).getD 1 default).y⟩,((T).getD k default).dc,((T).getD k default).load⟩:bd)),M++ [((T.getD k default).bp ((fY W.field (T.getD k default).spot (l.getD (eJ l (T.getD k default).id).toNat default).bp).getD 1 default)).id],anM,aqR,Z,Z,OD,ab,(by rw [aBO (by omega)];exact Hg),n9,acJ,by omega,Ih,by rw [aUs];exact WX,by rw [aUq,aVG];omega,(λ q I Φ=>by (exact nA q I Φ)),(λ q I Φ=>by (exact rL q I Φ)),(λ q I Φ=>by (exact aUw (Wu q I) (λ MR=>by (exact ux q MR Φ)) (λ MR=>by omega))),(λ q I Φ=>by (exact aUw (Wu q I) (λ MS=>by (exact oc q MS Φ)) (λ MS=>by omega))),(λ q I Φ=>by (exact aUw (Wu q I) (λ MT=>by (exact od q MT Φ)) (λ MT=>by (have:=S7 q Φ;omega))))⟩ (by omega) (.cons Z (.cons Z (.cons Z (.cons Z (.cons Z (.cons Z (.cons (bO Z) .nil)))))))
  ·refine c_<|c9<|dn<|c8<|aT<|ai<|vm Z<|va Z<|ag<|rt<|bb (.tmp Z .nil)<| ?_;have mS:k=W.ao.length:=by omega
   subst mS;have a8:(W.l7 l).2=M:=by show (jX _ _ _ _).2=M;rw [hS]
   have bl:(W.l7 l).1.ao=T:=by show (jX _ _ _ _).1=T;rw [hS]
   exact ⟨yD,HI,by rw [a8];rfl,by rw [a8];exact gm,by rw [bl];exact fl,sC⟩
end
section
def aJe (W:aj) (p:bd→Bool) (w:World) (e:Ending) (w':World):Prop:=e= .returned (.tuple #[.int .i64 (aGE W p), .bool (am9 W p), .int .i64 W.bq])∧Below w.heap.size w w'
end
section
theorem bj.aBp {w aP:World} {ax:Nat} {a:aj.cq} {W:aj} {l:List bd} (h:bj w ax a W) (m:Mod (κ.ae a.T) w aP) (b7:bd.rep.aD 66 56 aP ax (κ.ae a.T) a.T a.t l):bj aP ax a {W with ao:=l}:=by
 have hn:=(aU5.1 h.apart).2.2;have d:∀ q∈κ.ae a.P++κ.ae a.B++κ.ae a.S++κ.ae a.M,q∉κ.ae a.T:=λ q I aF=>hn q I q aF rfl;exact ⟨h.P.mod m (λ q I=>d q (by simp [I])),h.B.mod m (λ q I=>d q (by simp [I])),h.S.mod m (λ q I=>d q (by simp [I])),h.M.mod m (λ q I=>d q (by simp [I])),b7,h.apart,h.nums⟩
theorem avi {w:World} {ax:Nat} {a:aj.cq} {W:aj} (h:bj w ax a W):∀ q∈κ.ae a.P,q∉κ.ae a.T:=λ q I aF=>(aU5.1 h.apart).2.2 q (by simp [I]) q aF rfl
theorem aBt (w0:World) (a:aj.cq) (W:aj) (A:Option Addr) (c:Nat) (l:List dz) (w:World) (zd:bj w w0.heap.size a W) (aB:dz.rep.aK 24 w A c l) (Iw:0<l.length→∀ q∈κ.ae A,q∉κ.ae a.T) (FU:W.ao.length≤100000):
  Calls prog 98 #[.agg (aj.cells a W).toArray, .slice A l.length c] w (λ e w'=>∃ bL b_,e= .returned (.slice bL (W.l7 l).2.length b_)∧bS.aD 3 8 w' w.heap.size (κ.ae bL) bL b_ (W.l7 l).2∧bj w' w0.heap.size a (W.l7 l).1∧Mod (κ.ae a.T) w w'):=by
 refine (aEH w0 a W A c l w zd.P.has zd.T (avi zd) aB Iw FU).mono ?_;rintro e w' ⟨bL,b_,rfl,γ,aa,av⟩;exact ⟨bL,b_,Z,γ,zd.aBp av aa,av⟩
theorem ZY (W:aj) (l:List dz):(W.l7 l).1.ao.length=W.ao.length:=(SU _).1
theorem aEI (a:aj.cq) (W:aj) (l:List dz):aj.cells a W=aj.cells a (W.l7 l).1:=by
 unfold aj.cells;rw [ZY];rfl
def sk (W:aj) (l:List dz):Int:=if W.bq≠0 then W.bq else if 200<l.length then 2 else 0
noncomputable def hH (W:aj) (l:List dz):aj:=if sk W l≠0 then aj.zero else (W.l7 l).1
noncomputable def o_ (W:aj) (l:List dz):List Int:=if sk W l≠0 then [] else (W.l7 l).2
theorem aj6 {W:aj} {l:List dz} (h:¬ W.bq=0):sk W l=W.bq∧hH W l=aj.zero∧o_ W l= []:=by
 have e:sk W l=W.bq:=by unfold sk;rw [aUz h]
 unfold hH o_;rw [e,aUz h,aUz h];exact ⟨Z,Z,Z⟩
theorem aj7 {W:aj} {l:List dz} (h:W.bq=0) (aB:(200:Int)<(l.length:Int)):sk W l=2∧hH W l=aj.zero∧o_ W l= []:=by
 have e:sk W l=2:=by unfold sk;rw [aUr (by omega),aUz (by omega)]
 unfold hH o_;rw [e];exact ⟨Z,Z,Z⟩
theorem R_ {W:aj} {l:List dz} (h:W.bq=0) (aB:(l.length:Int)≤200):sk W l=0∧hH W l=(W.l7 l).1∧o_ W l=(W.l7 l).2:=by
 have e:sk W l=0:=by unfold sk;rw [aUr (by omega),aUr (by omega)]
 unfold hH o_;rw [e];exact ⟨Z,Z,Z⟩
noncomputable def alj (g:dz):Nat→aj→Nat
 | 0,_=>0
 | n+1,W=>if (W.l7 [g]).2.length=0 then 0 else alj g n (W.l7 [g]).1+1
noncomputable def alk (g:dz):Nat→aj→aj
 | 0,W=>W
 | n+1,W=>if (W.l7 [g]).2.length=0 then (W.l7 [g]).1 else alk g n (W.l7 [g]).1
def ali (W:aj) (id n:Int):Int:=if W.bq≠0 then W.bq else if n<0∨200<n then 1 else if am9 W (hE id)=false then 7 else 0
noncomputable def aRn (W:aj) (id:Int) (bp:ay) (n:Int):aj:=if ali W id n≠0 then aj.zero else alk ⟨id,⟨bp.x,bp.y⟩⟩ n.toNat W
noncomputable def aRm (W:aj) (id:Int) (bp:ay) (n:Int):Nat:=if ali W id n≠0 then 0 else alj ⟨id,⟨bp.x,bp.y⟩⟩ n.toNat W
theorem aBq (a:aj.cq) (W:aj) (w:World) (bQ:aj.Has w a W):
  Calls prog 97 #[.agg ((aj.cells a W).toArray)] w (λ e w'=>∃ a':aj.cq,e= .returned (.agg (aj.cells a' W).toArray)∧bj w' w.heap.size a' W∧Ext w w'):=by
 refine cl (n:=26) func97 Z Z Z ?_;refine ai<|cI Z Z Z Z λ cW bw a7 eA ab=> ?_;have:=a7.size;have bk:=τ (Ext.bK w) a7;have eG:=ab.lt;refine al Z pR Z Z λ eM cA bo iq ah=> ?_;have:=bo.size;have bR:=τ bk bo;have ia:=ah.lt;refine ag<|ai<|J (au rS Z)<|J (au y7 Z)<| ?_;have ab:=ab.later bo;refine J (ak Z (ab.one gy Z))<|ca AY Z Z ((vK _ _ W.field.aY _ (bQ.P.keep bR)).mono ?_);rintro e u6 ⟨mF,mQ,rfl,fb,aya,h0⟩;refine ⟨_,Z, ?_⟩;have:=h0.size;have jr:=τ bR h0;have mz:=λ q I=>(fb.lt q I).2;have mX:=λ q I=>(fb.lt q I).1;refine J (au rS Z)<|J (au y7 Z)<| ?_;have ab:=ab.later h0;refine st (new:= [.int .i64 W.field.wide, .int .i64 W.field.high, .slice mF ((W.field.aY).length) mQ, .slice a.B W.aZ.length a.b, .slice a.S W.bg.length a.s, .slice a.M W.bs.length a.m, .slice a.T W.ao.length a.t, .int .i64 W.next, .int .i64 W.now]) Z Z ab Z xD Z Z Z λ z6 lg ab=> ?_;have:=lg.size;have lu:=Ext.mod jr lg bx;refine ag<|az<| ?_;refine rd [(1,0),(2,2),(4,0),(5,2),(7,3),(9,3)] [0,1,3,4,2,6,5,7,8,9] (by kernel_rfl) (by kernel_rfl) ?_;refine ar Z (λ _=>au pS Z)<|bG Z (λ _ x=>ak Z ((ab.later x).one sY Z))<|ar Z (λ _=>au vT Z)<|bG Z (λ _ x=>ak Z ((ab.later x).one gy Z))<|fS Z Z Z λ sw cB Q hK=>ca V4 Z Z ((Qa _ _ W.aZ _ (bQ.B.keep (τ lu cB))).mono ?_);rintro e BT ⟨tT,uv,rfl,fN,ayb,jN⟩;refine ⟨_,Z,hK _ _ ⟨τ cB jN, ?_⟩⟩;have:=cB.size;have ix:=τ lu cB;have:=jN.size;have ph:=τ ix jN;have zU:=λ q I=>(fN.lt q I).2;have uQ:=λ q I=>(fN.lt q I).1;refine ar Z (λ _=>au pS Z)<|fS Z Z Z λ GK k1 Q hK=>ca AY Z Z ((vK _ _ W.bg _ (bQ.S.keep (τ ph k1))).mono ?_);rintro e wJ ⟨w2,xt,rfl,fO,ayc,e4⟩;refine ⟨_,Z,hK _ _ ⟨τ k1 e4, ?_⟩⟩;have:=k1.size;have rf:=τ ph k1;have:=e4.size;have ma:=τ rf e4;have Ec:=λ q I=>(fO.lt q I).2;have sb:=λ q I=>(fO.lt q I).1;have ab:=ab.later (τ cB (τ jN (τ k1 e4)));refine en Z Z Z λ yn e5 Q hK=>st (new:= [.int .i64 W.field.wide, .int .i64 W.field.high, .slice mF ((W.field.aY).length) mQ, .slice tT ((W.aZ).length) uv, .slice a.S W.bg.length a.s, .slice a.M W.bs.length a.m, .slice a.T W.ao.length a.t, .int .i64 W.next, .int .i64 W.now]) Z Z (ab.later e5) Z V5 Z Z Z λ JM hO ab=>hK _ _ ?_;have:=e5.size;have j1:=τ ma e5;have:=hO.size;have vq:=Ext.mod j1 hO bx;refine ar Z (λ _=>au vT Z)<|en Z Z Z λ BV e6 Q hK=>st (new:= [.int .i64 W.field.wide, .int .i64 W.field.high, .slice mF ((W.field.aY).length) mQ, .slice tT ((W.aZ).length) uv, .slice w2 ((W.bg).length) xt, .slice a.M W.bs.length a.m, .slice a.T W.ao.length a.t, .int .i64 W.next, .int .i64 W.now]) Z Z (ab.later e6) Z xD Z Z Z λ GM gX ab=>hK _ _ ?_;have:=e6.size;have lT:=τ vq e6;have:=gX.size;have oJ:=Ext.mod lT gX bx;refine fn λ q7 eu=> ?_;have:=eu.size;have ih:=τ oJ eu;refine aT<|az<| ?_;refine rd [(1,0),(2,2),(4,0),(5,2),(7,3),(9,3)] [0,1,3,4,2,6,5,7,8,9] (by kernel_rfl) (by kernel_rfl) ?_;refine ar Z (λ _=>au AZ Z)<| ?_;have ab:=ab.later eu;refine bG Z (λ _ x=>ak Z ((ab.later x).one gy Z))<|ar Z (λ _=>au iO Z)<|bG Z (λ _ x=>ak Z ((ab.later x).one j7 Z))<|fS Z Z Z λ Oi ig Q hK=>ca AY Z Z ((vK _ _ W.bs _ (bQ.M.keep (τ ih ig))).mono ?_);rintro e JP ⟨Ah,qD,rfl,i_,ayd,iW⟩;refine ⟨_,Z,hK _ _ ⟨τ ig iW, ?_⟩⟩;have:=ig.size;have yx:=τ ih ig;have:=iW.size;have qt:=τ yx iW;have N9:=λ q I=>(i_.lt q I).2;have td:=λ q I=>(i_.lt q I).1;refine ar Z (λ _=>au AZ Z)<|fS Z Z Z λ aao hT Q hK=>ca QB Z Z ((K2 _ _ W.ao _ (bQ.T.keep (τ qt hT))).mono ?_);rintro e JR ⟨EF,CU,rfl,i',aye,gR⟩;refine ⟨_,Z,hK _ _ ⟨τ hT gR, ?_⟩⟩;have:=hT.size;have G6:=τ qt hT;have:=gR.size;have sG:=τ G6 gR;have tD:=λ q I=>(i'.lt q I).2;have sf:=λ q I=>(i'.lt q I).1;have ab:=ab.later (τ ig (τ iW (τ hT gR)));refine en Z Z Z λ aap kg Q hK=>st (new:= [.int .i64 W.field.wide, .int .i64 W.field.high, .slice mF ((W.field.aY).length) mQ, .slice tT ((W.aZ).length) uv, .slice w2 ((W.bg).length) xt, .slice Ah ((W.bs).length) qD, .slice a.T W.ao.length a.t, .int .i64 W.next, .int .i64 W.now]) Z Z (ab.later kg) Z xD Z Z Z λ BW fW ab=>hK _ _ ?_;have:=kg.size;have G7:=τ sG kg;have:=fW.size;have oK:=Ext.mod G7 fW bx;refine ar Z (λ _=>au iO Z)<|en Z Z Z λ BX fE Q hK=>st (new:= [.int .i64 W.field.wide, .int .i64 W.field.high, .slice mF ((W.field.aY).length) mQ, .slice tT ((W.aZ).length) uv, .slice w2 ((W.bg).length) xt, .slice Ah ((W.bs).length) qD, .slice EF ((W.ao).length) CU, .int .i64 W.next, .int .i64 W.now]) Z Z (ab.later fE) Z HY Z Z Z λ JU qa ab=>hK _ _ ?_;have:=fE.size;have wY:=τ oK fE;have:=qa.size;have k5:=Ext.mod wY qa bx;refine fn λ Tx gC=> ?_;have:=gC.size;have Cj:=τ k5 gC;refine aT<|ai<| ?_;have ab:=ab.later gC;refine J (ak Z (ab.all dD cf))<| ?_;have ah:=ah.later h0;have ah:=ah.mod lg aQ;have ah:=ah.later (τ cB (τ jN (τ k1 (τ e4 e5))));have ah:=ah.mod hO aQ;have ah:=ah.later e6;have ah:=ah.mod gX aQ;have ah:=ah.later (τ eu (τ ig (τ iW (τ hT (τ gR kg)))));have ah:=ah.mod fW aQ;have ah:=ah.later fE;have ah:=ah.mod qa aQ;have ah:=ah.later gC;refine st (new:= [.int .i64 W.field.wide, .int .i64 W.field.high, .slice mF ((W.field.aY).length) mQ, .slice tT ((W.aZ).length) uv, .slice w2 ((W.bg).length) xt, .slice Ah ((W.bs).length) qD, .slice EF ((W.ao).length) CU, .int .i64 W.next, .int .i64 W.now]) Z Z ah Z cf Z Z Z λ yo mZ ah=> ?_;have:=mZ.size;have Ck:=Ext.mod Cj mZ bx;refine ag<|rt<|bb (.cell Z (ah.all dD cf) .nil)<| ?_;have fb:=fb.mod lg (bC mX);have fb:=fb.later (τ cB (τ jN (τ k1 (τ e4 e5))));have fb:=fb.mod hO (bC mX);have fb:=fb.later e6;have fb:=fb.mod gX (bC mX);have fb:=fb.later (τ eu (τ ig (τ iW (τ hT (τ gR kg)))));have fb:=fb.mod fW (bC mX);have fb:=fb.later fE;have fb:=fb.mod qa (bC mX);have fb:=fb.later gC;have fb:=fb.mod mZ (bC mX);have fN:=fN.later (τ k1 (τ e4 e5));have fN:=fN.mod hO (bC uQ);have fN:=fN.later e6;have fN:=fN.mod gX (bC uQ);have fN:=fN.later (τ eu (τ ig (τ iW (τ hT (τ gR kg)))));have fN:=fN.mod fW (bC uQ);have fN:=fN.later fE;have fN:=fN.mod qa (bC uQ);have fN:=fN.later gC;have fN:=fN.mod mZ (bC uQ);have fO:=fO.later e5;have fO:=fO.mod hO (bC sb);have fO:=fO.later e6;have fO:=fO.mod gX (bC sb);have fO:=fO.later (τ eu (τ ig (τ iW (τ hT (τ gR kg)))));have fO:=fO.mod fW (bC sb);have fO:=fO.later fE;have fO:=fO.mod qa (bC sb);have fO:=fO.later gC;have fO:=fO.mod mZ (bC sb);have i_:=i_.later (τ hT (τ gR kg));have i_:=i_.mod fW (bC td);have i_:=i_.later fE;have i_:=i_.mod qa (bC td);have i_:=i_.later gC;have i_:=i_.mod mZ (bC td);have i':=i'.later kg;have i':=i'.mod fW (bC sf);have i':=i'.later fE;have i':=i'.mod qa (bC sf);have i':=i'.later gC;have i':=i'.mod mZ (bC sf);have hR:=bj.Y5 (ax:=w.heap.size) (fb.down (by omega)) (fN.down (by omega)) (fO.down (by omega)) (i_.down (by omega)) (i'.down (by omega)) (λ q γ aa=>by exfalso;(have:=uQ q γ;(have:=mz q aa;omega))) (λ q γ aa=>by exfalso;(have:=sb q γ;(have:=mz q aa;omega))) (λ q γ aa=>by exfalso;(have:=sb q γ;(have:=zU q aa;omega))) (λ q γ aa=>by exfalso;(have:=td q γ;(have:=mz q aa;omega))) (λ q γ aa=>by exfalso;(have:=td q γ;(have:=zU q aa;omega))) (λ q γ aa=>by exfalso;(have:=td q γ;(have:=Ec q aa;omega))) (λ q γ aa=>by exfalso;(have:=sf q γ;(have:=mz q aa;omega))) (λ q γ aa=>by exfalso;(have:=sf q γ;(have:=zU q aa;omega))) (λ q γ aa=>by exfalso;(have:=sf q γ;(have:=Ec q aa;omega))) (λ q γ aa=>by exfalso;(have:=sf q γ;(have:=N9 q aa;omega))) bQ.nums;exact ⟨⟨mF,tT,w2,Ah,EF,mQ,uv,xt,qD,CU⟩,Z,hR,Ck⟩
theorem aBs (a:aj.cq) (W:aj) (A:Option Addr) (c:Nat) (l:List dz) (w:World) (bQ:aj.Has w a W) (aB:dz.rep.aK 24 w A c l):
  Calls prog 62 #[.agg ((aj.cells a W).toArray), .slice A l.length c] w (λ e w'=>∃ a' bL b_,e= .returned (.tuple #[.agg (aj.cells a' (hH W l)).toArray, .slice bL (o_ W l).length b_, .int .i64 (sk W l)])∧bj w' w.heap.size a' (hH W l)∧bS.aD 3 8 w' w.heap.size (κ.ae bL) bL b_ (o_ W l)∧(∀ q∈κ.ae bL,q∉bj.bV a')∧Ext w w'):=by
 refine cl (n:=26) func62 Z Z Z ?_;refine ai<|cI Z Z Z Z λ cW bw a7 eA ab=> ?_;have:=a7.size;have bk:=τ (Ext.bK w) a7;have eG:=ab.lt;refine al Z pR Z Z λ eM cA bo iq ah=> ?_;have:=bo.size;have bR:=τ bk bo;have ia:=ah.lt;refine va Z<|va Z<|ag<|az<|ai<| ?_;have ab:=ab.later bo;refine J (ak Z (ab.all dD cf))<|ca HV Z Z ((CW a W _ (bQ.keep bR)).mono ?_);rintro e hk ⟨rfl,f_⟩;refine ⟨_,Z, ?_⟩;have:=f_.size;have c':=τ bR f_;refine va Z<|ag<|ai<|vm Z<|J (bne Z Z)<|ag<| ?_;refine eU Z (λ ld=> ?_) (λ ld=> ?_)
 ·refine ai<|J (v:= .agg #[.int .i64 0, .int .i64 0, .slice none 0 0, .slice none 0 0, .slice none 0 0, .slice none 0 0, .slice none 0 0, .int .i64 0, .int .i64 0]) (cM Z (by kernel_rfl))<|vm Z<| ?_;have ah:=ah.later f_;refine st (new:= [.int .i64 0, .int .i64 0, .slice none 0 0, .slice none 0 0, .slice none 0 0, .slice none 0 0, .slice none 0 0, .int .i64 0, .int .i64 0]) Z Z ah Z cf Z Z Z λ JJ p9 ah=> ?_;have:=p9.size;have vl:=Ext.mod c' p9 bx;refine va Z<|va Z<|ag<|rt<|bT<|bb (.cell Z (ah.all dD cf) (.tmp Z (.tmp Z .nil)))<| ?_;obtain ⟨a8,bl,cZ⟩:=aj6 (l:=l) ld;exact ⟨⟨none,none,none,none,none,0,0,0,0,0⟩,none,0,by rw [a8,bl,cZ];rfl,by rw [bl];exact bj.zero _ _,by rw [cZ];exact κ.aD.nil _,λ q I=>by simp [κ.ae] at I,vl⟩
 ·have bD:=Good.BD ld;have FU:=bD.eF;refine bt<|az<|ai<|vm Z<|J (cj underlying124 Z)<|J (iK Z Z)<|ag<| ?_;refine dw Z (λ uE=> ?_) (λ uE=> ?_)
  ·refine ai<|J (v:= .agg #[.int .i64 0, .int .i64 0, .slice none 0 0, .slice none 0 0, .slice none 0 0, .slice none 0 0, .slice none 0 0, .int .i64 0, .int .i64 0]) (cM Z (by kernel_rfl))<| ?_;have ah:=ah.later f_;refine st (new:= [.int .i64 0, .int .i64 0, .slice none 0 0, .slice none 0 0, .slice none 0 0, .slice none 0 0, .slice none 0 0, .int .i64 0, .int .i64 0]) Z Z ah Z cf Z Z Z λ u7 x2 ah=> ?_;have:=x2.size;have lS:=Ext.mod c' x2 bx;refine va Z<|va Z<|ag<|rt<|bT<|bb (.cell Z (ah.all dD cf) (.tmp Z (.tmp Z .nil)))<| ?_;obtain ⟨a8,bl,cZ⟩:=aj7 (l:=l) ld (by omega);exact ⟨⟨none,none,none,none,none,0,0,0,0,0⟩,none,0,by rw [a8,bl,cZ];rfl,by rw [bl];exact bj.zero _ _,by rw [cZ];exact κ.aD.nil _,λ q I=>by simp [κ.ae] at I,lS⟩
  ·refine bt<|ai<| ?_;have ab:=ab.later f_;refine J (ak Z (ab.all dD cf))<|ca as5 Z Z ((aBq a W _ (bQ.keep c')).mono ?_);rintro e u9 ⟨a28,rfl,Kw,dp⟩;refine ⟨_,Z, ?_⟩;have:=dp.size;have js:=τ c' dp;have N6:=λ q I=>(Kw.lt q I).2;have IW:=λ q I=>(Kw.lt q I).1;have ab:=ab.later dp;refine st Z Z ab Z cf Z Z Z λ GK kc ab=> ?_;have:=kc.size;have rf:=Ext.mod js kc bx;refine ag<|ai<|J (ak Z (ab.all dD cf))<|vm Z<| ?_;have Kw:=Kw.mod kc (bC IW);refine ca as6 Z Z ((aBt _ a28 W _ _ l _ Kw (aB.keep rf) (λ aI q I Φ=>by have γ:=aB.aAV (by decide) aI q I;have aa:=IW q (qG Φ);omega) (by omega)).mono ?_);rintro e JL ⟨anB,aqA,rfl,KG,Pm,Bx⟩;refine ⟨_,Z, ?_⟩;have:=Bx.size;have sB:=Ext.mod rf Bx (λ q I=>by have bh:=IW q (qG I);omega);rw [aEI a28 W l] at ab;have aFp:=λ q I=>(KG.lt q I).2;have YB:=λ q I=>(KG.lt q I).1;have aSy:=λ q I=>(Pm.lt q I).2;have aL7:=ZY W l;refine va Z<|ag<|ai<| ?_;have y4:∀ q∈κ.ae a28.T,q=bw→False:=λ q I Φ=>by (have:=IW q (qG I);omega)
   have ab:=ab.mod Bx (λ I=>y4 _ I rfl);refine J (ak Z (ab.all dD cf))<|vm Z<| ?_;have ah:=ah.later (τ f_ dp);have ah:=ah.mod kc aQ;have y5:∀ q∈κ.ae a28.T,q=cA→False:=λ q I Φ=>by (have:=IW q (qG I);omega)
   have ah:=ah.mod Bx (λ I=>y5 _ I rfl);refine st Z Z ah Z cf Z Z Z λ Tl kq ah=> ?_;have:=kq.size;have vr:=Ext.mod sB kq bx;refine va Z<|va Z<|ag<|rt<|bb (.cell Z (ah.all dD cf) (.tmp Z (.tmp Z .nil)))<| ?_;have Pm:=Pm.mod kq (bC IW);have KG:=KG.mod kq (bC YB);obtain ⟨a8,bl,cZ⟩:=R_ (l:=l) ld (by omega);exact ⟨a28,anB,aqA,by rw [a8,bl,cZ];rfl,by rw [bl];exact Pm.down (by omega),by rw [cZ];exact KG.down (by omega),λ q I hf=>by (have:=YB q I;(have:=N6 q hf;omega)),vr⟩
end
section
structure ct where
 kind:Int
 aU:Int
 spot:ay
 what:Int
 deriving DecidableEq,Inhabited
namespace ct
def cells (a:ct):List Value:= [.int .i64 (a.kind), .int .i64 (a.aU), .int .i64 (a.spot.x), .int .i64 (a.spot.y), .int .i64 (a.what)]
def ok (a:ct):Prop:=(Lit.int .i64 a.kind).wf=true∧(Lit.int .i64 a.aU).wf=true∧(Lit.int .i64 a.spot.x).wf=true∧(Lit.int .i64 a.spot.y).wf=true∧(Lit.int .i64 a.what).wf=true
def raw (j:Nat) (u:Value):Prop:=match j with
 | 0=>∃ n:Int,u= .int .i64 n
 | 1=>∃ n:Int,u= .int .i64 n
 | 2=>∃ n:Int,u= .int .i64 n
 | 3=>∃ n:Int,u= .int .i64 n
 | 4=>∃ n:Int,u= .int .i64 n
 | _=>True
theorem rJ (a:ct):∀ (j:Nat) u,a.cells[j]? =some u→raw j u:=by
 intro j u hu
 match j,hu with
 | 0,hu=>exact ⟨_,(aUh hu).symm⟩
 | 1,hu=>exact ⟨_,(aUh hu).symm⟩
 | 2,hu=>exact ⟨_,(aUh hu).symm⟩
 | 3,hu=>exact ⟨_,(aUh hu).symm⟩
 | 4,hu=>exact ⟨_,(aUh hu).symm⟩
 | j+5,hu=>exact trivial
theorem rI (a:ct):∀ u∈a.cells,u.oneCell'=true:=by
 intro u hu;unfold cells at hu;simp only [aUD,aVI,aWr] at hu;rcases hu with rfl | rfl | rfl | rfl | rfl<;>rfl
def rep:κ ct:=κ.flat 5 cells ok raw (λ _=>rfl) rI rJ
def zero:Value:= .agg #[.int .i64 0, .int .i64 0, .int .i64 0, .int .i64 0, .int .i64 0]
theorem iY:∀ (j:Nat) u,zero.cells[j]? =some u→rep.raw j u:=by
 intro j u hu;have hu:(#[(.int .i64 0:Value),(.int .i64 0:Value),(.int .i64 0:Value),(.int .i64 0:Value),(.int .i64 0:Value)]:Array Value)[j]? =some u:=hu
 match j,hu with
 | 0,hu=>exact ⟨_,(aUh hu).symm⟩
 | 1,hu=>exact ⟨_,(aUh hu).symm⟩
 | 2,hu=>exact ⟨_,(aUh hu).symm⟩
 | 3,hu=>exact ⟨_,(aUh hu).symm⟩
 | 4,hu=>exact ⟨_,(aUh hu).symm⟩
 | j+5,hu=>cases hu
theorem info:(prog.info? 178).map (λ i=>(i.zero,i.size,i.bytes))=some (some zero,5,40):=by kernel_rfl
def sh:fP:=(.cons (.int .i64) (.cons (.int .i64) (.cons (.cons (.int .i64) (.cons (.int .i64) .nil)) (.cons (.int .i64) .nil))))
end ct
theorem awZ {w:World} {cs:List Value} {a:ct} (h:ct.rep.has w cs a):cs=a.cells:=aWw (show cs=a.cells∧a.ok from h)
end
section
def beside (a b:ay):Bool:=cR b.x (a.x - 1) (a.x+1) && cR b.y (a.y - 1) (a.y+1)
namespace aj
def place (W:aj) (c:ay):Nat:=(c.y * W.field.wide+c.x).toNat
def qC (t:bd) (n:Int):bd:= {t with load:=t.load+n}
def nN (W:aj) (d:ct):Option aj :=
 match W.ao.findIdx? (hE d.aU) with
 | none=>none
 | some k =>
  let t:=W.ao.getD k default
  let m:=W.bs.getD (W.place d.spot) 0
  if t.kind == 1 && decide (t.load<5) && beside t.spot d.spot && W.field.fr d.spot && m != 0 then
   some {W with bs:=W.bs.set (W.place d.spot) (m - 1),ao:=W.ao.set k (qC t 1)}
  else none
def drop (W:aj) (d:ct):Option aj :=
 match W.ao.findIdx? (hE d.aU) with
 | none=>none
 | some k =>
  let t:=W.ao.getD k default
  let o:=t.owner.toNat
  let s:=W.bg.getD o 0
  let n:=min t.load (1000000 - s)
  if t.load != 0 && beside (W.aZ.getD o default) t.spot && decide (0<n) then
   some {W with bg:=W.bg.set o (s+n),ao:=W.ao.set k (qC t (-n))}
  else none
def around (c:ay):List ay :=
 [c,⟨c.x - 1,c.y - 1⟩,⟨c.x,c.y - 1⟩,⟨c.x+1,c.y - 1⟩,⟨c.x - 1,c.y⟩,⟨c.x,c.y⟩,⟨c.x+1,c.y⟩,⟨c.x - 1,c.y+1⟩,⟨c.x,c.y+1⟩,⟨c.x+1,c.y+1⟩]
def D0 (W:aj) (c:ay):Bool:=W.field.ground c && !W.ao.any (qW c)
def free (W:aj) (c:ay):Option ay:=(around c).find? W.D0
def r6 (W:aj) (d:ct):Option aj :=
 let s:=W.bg.getD d.aU.toNat 0
 if cR d.aU 0 ((W.aZ.length:Int) - 1) && cR d.what 1 2 && decide (kW d.what≤s) && decide (W.ao.length<100) && decide (W.next<1000000) then
  match W.free (W.aZ.getD d.aU.toNat default) with
  | none=>none
  | some c=>some {W with ao:=W.ao++ [⟨W.next,d.aU,d.what,c,kb d.what,0⟩],next:=W.next+1,bg:=W.bg.set d.aU.toNat (s - kW d.what)}
 else none
def lD (W:aj) (d:ct):Option aj:=if d.kind=1 then W.nN d else if d.kind=2 then W.drop d else if d.kind=3 then W.r6 d else none
def h8 (W:aj):List ct→aj×List Bool
 | []=>(W, [])
 | d::l=>match W.lD d with
  | some V=>((V.h8 l).1,true::(V.h8 l).2)
  | none=>((W.h8 l).1,false::(W.h8 l).2)
end aj
theorem H4 {l:List bd} {id:Int} {k:Nat} (h:l.findIdx? (hE id)=some k):∃ t,l[k]? =some t∧t.id=id∧l.getD k default=t:=by
 obtain ⟨γ,aa,_⟩:=aWP.1 h;exact ⟨l[k],aUk γ,by simpa [hE] using aa,by rw [aUi,aUk γ];rfl⟩
theorem aEq {W V:aj} {k:Nat} {t u:bd} (qK:V.ao=W.ao.set k u) (aF:W.ao[k]? =some t) (hs:u.spot=t.spot) (i:Nat):V.jm i=W.jm i:=by
 unfold aj.jm;rw [qK,List.take_set,aVD];by_cases p1:k<i
 ·have γ:((W.ao.take i).map (·.spot))[k]? =some t.spot:=by rw [aUx,aU2,aUz p1,aF];rfl
  obtain ⟨aa,av⟩:=aUj.1 γ;rw [hs,← av];exact aV1 _
 ·rw [List.set_eq_of_length_le (by rw [aUZ,aUm];omega)]
theorem aAn {W V:aj} {k:Nat} {t u:bd} (qK:V.ao=W.ao.set k u) (aF:W.ao[k]? =some t) (hs:u.id=t.id) (i:Nat):V.jR i=W.jR i:=by
 unfold aj.jR;by_cases aq:i=0
 ·rw [aUz aq,aUz aq]
 ·rw [aUr aq,aUr aq,qK,aUi,aUi];by_cases aw:k=i - 1
  ·subst aw;rw [aUG (aUj.1 aF).1,aF];exact hs
  ·rw [aUJ aw]
theorem UY {W V:aj} {k:Nat} {t u:bd} (qK:V.ao=W.ao.set k u) (aF:W.ao[k]? =some t) {i:Nat} {x:bd} (hx:V.ao[i]? =some x):(i=k∧x=u)∨(i≠k∧W.ao[i]? =some x):=by
 rw [qK] at hx;by_cases aw:k=i
 ·subst aw;rw [aUG (aUj.1 aF).1] at hx;exact .inl ⟨Z,(aUh hx).symm⟩
 ·rw [aUJ aw] at hx;exact .inr ⟨aW4 aw,hx⟩
theorem Good.turned {W V:aj} (h:Good W) {k:Nat} {t:bd} {n:Int} (aF:W.ao[k]? =some t) (qK:V.ao=W.ao.set k (aj.qC t n)) (aB:0≤t.load+n∧t.load+n≤aj.BB t.kind)
  (hf:V.field=W.field) (Φ:V.aZ=W.aZ) (hn:V.next=W.next) (hw:V.now=W.now)
  (s7:V.bg.length=W.bg.length) (hs:∀ (i:Nat) s,V.bg[i]? =some s→0≤s∧s≤1000000)
  (FT:V.bs.length=W.bs.length) (hm:∀ (i:Nat) m,V.bs[i]? =some m→0≤m∧m≤1000000∧(m≤0∨W.field.aY.getD i 0=3)):Good V:=by
 have γ:=h.ao k t aF;have hlen:V.ao.length=W.ao.length:=by rw [qK,aUs]
 refine ⟨by rw [hf];exact h.field,by rw [Φ];exact h.ks,by rw [hlen];exact h.eF,by rw [s7,Φ];exact h.sl, ?_,hs,by rw [FT,hf];exact h.x5,by rw [hf];exact hm,λ i x hx=> ?_,λ i x hx=> ?_,λ i x hx=> ?_,by rw [hn];exact h.next,by rw [hw];exact h.now⟩
 ·rw [Φ,hf];exact h.aZ
 ·rw [hf,Φ];rcases UY qK aF hx with ⟨rfl,rfl⟩ | ⟨_,hx⟩
  ·exact ⟨γ.kind,γ.owner,γ.ground,γ.dc,aB⟩
  ·exact h.ao i x hx
 ·rw [aAn qK aF rfl,hn];rcases UY qK aF hx with ⟨rfl,rfl⟩ | ⟨_,hx⟩
  ·exact h.ids i t aF
  ·exact h.ids i x hx
 ·rw [aEq qK aF rfl];rcases UY qK aF hx with ⟨rfl,rfl⟩ | ⟨_,hx⟩
  ·exact h.jm i t aF
  ·exact h.jm i x hx
theorem aBi {W V:aj} {d:ct} (h:W.nN d=some V):∃ (k:Nat) (t:bd),W.ao.findIdx? (hE d.aU)=some k∧W.ao[k]? =some t∧t.id=d.aU∧t.kind=1∧t.load<5∧beside t.spot d.spot=true∧W.field.fr d.spot=true∧W.bs.getD (W.place d.spot) 0≠0∧
  V= {W with bs:=W.bs.set (W.place d.spot) (W.bs.getD (W.place d.spot) 0 - 1),ao:=W.ao.set k (aj.qC t 1)}:=by
 unfold aj.nN at h;cases hf:W.ao.findIdx? (hE d.aU) with
 | none=>rw [hf] at h;cases h
 | some k =>
  rw [hf] at h;obtain ⟨t,aF,hid,aS⟩:=H4 hf;simp only [aS] at h;split at h
  ·rename_i hc
   simp only [aUp,aUO,aXW,aVh] at hc;exact ⟨k,t,Z,aF,hid,hc.1.1.1.1,hc.1.1.1.2,hc.1.1.2,hc.1.2,hc.2,(aUh h).symm⟩
  ·cases h
theorem asQ {W V:aj} {d:ct} (h:W.drop d=some V):∃ (k:Nat) (t:bd) (n:Int),W.ao.findIdx? (hE d.aU)=some k∧W.ao[k]? =some t∧t.id=d.aU∧t.load≠0∧beside (W.aZ.getD t.owner.toNat default) t.spot=true∧n=min t.load (1000000 - W.bg.getD t.owner.toNat 0)∧0<n∧
  V= {W with bg:=W.bg.set t.owner.toNat (W.bg.getD t.owner.toNat 0+n),ao:=W.ao.set k (aj.qC t (-n))}:=by
 unfold aj.drop at h;cases hf:W.ao.findIdx? (hE d.aU) with
 | none=>rw [hf] at h;cases h
 | some k =>
  rw [hf] at h;obtain ⟨t,aF,hid,aS⟩:=H4 hf;simp only [aS] at h;split at h
  ·rename_i hc
   simp only [aUp,aUO,aXW] at hc;exact ⟨k,t,_,Z,aF,hid,hc.1.1,hc.1.2,Z,hc.2,(aUh h).symm⟩
  ·cases h
theorem axx {W V:aj} {d:ct} (h:W.r6 d=some V):∃ c:ay,W.free (W.aZ.getD d.aU.toNat default)=some c∧0≤d.aU∧d.aU<(W.aZ.length:Int)∧(d.what=1∨d.what=2)∧aj.kW d.what≤W.bg.getD d.aU.toNat 0∧W.ao.length<100∧W.next<1000000∧
  V= {W with ao:=W.ao++ [⟨W.next,d.aU,d.what,c,aj.kb d.what,0⟩],next:=W.next+1,bg:=W.bg.set d.aU.toNat (W.bg.getD d.aU.toNat 0 - aj.kW d.what)}:=by
 unfold aj.r6 at h;simp only at h;split at h
 ·rename_i hc
  simp only [aUp,aUO] at hc;have a:=kR hc.1.1.1.1;have b:=kR hc.1.1.1.2;split at h
  ·cases h
  ·rename_i c lF
   exact ⟨c,lF,a.1,by omega,by omega,hc.1.1.2,hc.1.2,hc.2,(aUh h).symm⟩
 ·cases h
theorem aCJ (k:Int):0≤aj.kW k:=by unfold aj.kW;split<;>(try split)<;>omega
theorem Good.nN {W V:aj} {d:ct} (h:Good W) (hd:W.nN d=some V):Good V:=by
 obtain ⟨k,t,_,aF,_,aw,aB,_,dJ,FQ,rfl⟩:=aBi hd;have γ:=h.ao k t aF;have XP:aj.BB t.kind=5:=by rw [aw];rfl
 obtain ⟨i1,i2,_⟩:=aE.idx h.field dJ;have bE:W.place d.spot<W.bs.length:=by rw [h.x5];unfold aj.place;omega
 obtain ⟨m,hm⟩:=hC bE;have aa:=h.bs _ m hm;have aS:W.bs.getD (W.place d.spot) 0=m:=by rw [aUi,hm];rfl
 rw [aS] at FQ ⊢;refine h.turned aF Z (by have:=γ.load;omega) Z Z Z Z Z h.bg (by simp) λ i x hx=> ?_;simp only at hx;by_cases aq:W.place d.spot=i
 ·subst aq;rw [aUG bE] at hx;obtain rfl:=aUh hx;refine ⟨by omega,by omega, ?_⟩;rcases aa.2.2 with av | av
  ·omega
  ·exact .inr av
 ·rw [aUJ aq] at hx;exact h.bs i x hx
theorem Good.drop {W V:aj} {d:ct} (h:Good W) (hd:W.drop d=some V):Good V:=by
 obtain ⟨k,t,n,_,aF,_,aB,_,hn,ahH,rfl⟩:=asQ hd;have γ:=h.ao k t aF;have bE:t.owner.toNat<W.bg.length:=by rw [h.sl];have:=γ.owner;omega
 obtain ⟨s,hs⟩:=hC bE;have aa:=h.bg _ s hs;have aS:W.bg.getD t.owner.toNat 0=s:=by rw [aUi,hs];rfl
 rw [aS] at hn ⊢;refine h.turned aF Z (by have:=γ.load;omega) Z Z Z Z (by simp) (λ i x hx=> ?_) Z h.bs;simp only at hx;by_cases aq:t.owner.toNat=i
 ·subst aq;rw [aUG bE] at hx;obtain rfl:=aUh hx;omega
 ·rw [aUJ aq] at hx;exact h.bg i x hx
theorem Good.r6 {W V:aj} {d:ct} (h:Good W) (hd:W.r6 d=some V):Good V:=by
 obtain ⟨c,lF,azc,kQ,aw,hp,FU,s6,rfl⟩:=axx hd;have wg:=aXw lF;unfold aj.D0 at wg;rw [aUp] at wg;have pV:∀ t∈W.ao,t.spot≠c:=λ t aF he=>by
  have:=wg.2;rw [aVn,aX6] at this;exact this t aF (by simp [qW,he])
 have bE:d.aU.toNat<W.bg.length:=by rw [h.sl];omega
 obtain ⟨s,hs⟩:=hC bE;have aa:=h.bg _ s hs;have aS:W.bg.getD d.aU.toNat 0=s:=by rw [aUi,hs];rfl
 rw [aS] at hp ⊢;have Rz:=aCJ d.what;have hn:=h.next;have ah9:∀ i,i≤W.ao.length→aj.jm {W with ao:=W.ao++ [⟨W.next,d.aU,d.what,c,aj.kb d.what,0⟩],next:=W.next+1,bg:=W.bg.set d.aU.toNat (s - aj.kW d.what)} i=W.jm i:=λ i aq=>by
  unfold aj.jm;simp only;rw [aYl aq]
 have Ro:∀ i,i≤W.ao.length→aj.jR {W with ao:=W.ao++ [⟨W.next,d.aU,d.what,c,aj.kb d.what,0⟩],next:=W.next+1,bg:=W.bg.set d.aU.toNat (s - aj.kW d.what)} i=W.jR i:=λ i aq=>by
  unfold aj.jR;simp only;by_cases aI:i=0
  ·rw [aUz aI,aUz aI]
  ·rw [aUr aI,aUr aI,aUi,aUi,aUC (by omega)]
 have fU:∀ (i:Nat) x,(W.ao++ [(⟨W.next,d.aU,d.what,c,aj.kb d.what,0⟩:bd)])[i]? =some x→(i<W.ao.length∧W.ao[i]? =some x)∨(i=W.ao.length∧x=⟨W.next,d.aU,d.what,c,aj.kb d.what,0⟩):=λ i x hx=>by
  by_cases aq:i<W.ao.length
  ·rw [aUC aq] at hx;exact .inl ⟨aq,hx⟩
  ·rw [aUF (by omega)] at hx;have aI:i - W.ao.length=0:=by
    have:=(aUj.1 hx).1;simp at this;omega
   rw [aI] at hx;exact .inr ⟨by omega,by simpa using hx.symm⟩
 have aL1:W.jR W.ao.length<W.next∧0≤W.jR W.ao.length:=by
  by_cases aI:W.ao.length=0
  ·rw [aI];exact ⟨by show (0:Int)<_;omega,aVR _⟩
  ·obtain ⟨t,aF⟩:=hC (l:=W.ao) (i:=W.ao.length - 1) (by omega);have aV:=h.ids _ t aF;have e:W.jR W.ao.length=t.id:=by
    unfold aj.jR;rw [aUr aI,aUi,aF];rfl
   rw [e];omega
 refine ⟨h.field,h.ks,by simp;omega,by simp;exact h.sl,h.aZ,λ i x hx=> ?_,h.x5,h.bs,λ i x hx=> ?_,λ i x hx=> ?_,λ i x hx=> ?_,by simp only;omega,h.now⟩
 ·simp only at hx;by_cases aq:d.aU.toNat=i
  ·subst aq;rw [aUG bE] at hx;obtain rfl:=aUh hx;omega
  ·rw [aUJ aq] at hx;exact h.bg i x hx
 ·rcases fU i x hx with ⟨_,hx⟩ | ⟨_,rfl⟩
  ·exact h.ao i x hx
  ·exact ⟨aw,⟨azc,kQ⟩,wg.1,by simp only;rcases aw with h | h<;>rw [h]<;>decide,by simp only;rcases aw with h | h<;>rw [h]<;>decide⟩
 ·rcases fU i x hx with ⟨aq,hx⟩ | ⟨rfl,rfl⟩
  ·rw [Ro i (by omega)];have:=h.ids i x hx;simp only;omega
  ·rw [Ro _ (aUu _)];simp only;omega
 ·rcases fU i x hx with ⟨aq,hx⟩ | ⟨rfl,rfl⟩
  ·rw [ah9 i (by omega)];exact h.jm i x hx
  ·rw [ah9 _ (aUu _)];simp only;cases hc:(W.jm W.ao.length).contains c with
   | false=>rfl
   | true =>
    rw [aWX] at hc;unfold aj.jm at hc;obtain ⟨t,aF,he⟩:=aUR.1 hc;exact absurd he (pV t (aWv aF))
theorem Good.lD {W V:aj} {d:ct} (h:Good W) (hd:W.lD d=some V):Good V:=by
 unfold aj.lD at hd;split at hd
 ·exact h.nN hd
 ·split at hd
  ·exact h.drop hd
  ·split at hd
   ·exact h.r6 hd
   ·cases hd
theorem Good.h8 {W:aj} (h:Good W):∀ l:List ct,Good (W.h8 l).1:=by
 intro l;induction l generalizing W with
 | nil=>exact h
 | cons d l bI =>
  unfold aj.h8;cases hd:W.lD d with
  | none=>exact bI h
  | some V=>exact bI (h.lD hd)
end
end Go.Proofs.YtlikikpgmmkjbaaGreat
