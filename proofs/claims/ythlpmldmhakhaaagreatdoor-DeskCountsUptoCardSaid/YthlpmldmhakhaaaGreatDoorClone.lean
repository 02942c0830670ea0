import Derived.Test.YthlpmldmhakhaaaGreatDoorPtq
import Derived.Shelf.Bits.Mul64
import Derived.Shelf.Spec.SlicesInsertGrow
import Derived.Shelf.Slices.Empties
set_option linter.unusedVariables false
set_option linter.unusedSimpArgs false
set_option maxRecDepth 100000
set_option maxHeartbeats 4000000
open Go.RowKit
namespace Go.Proofs.YthlpmldmhakhaaaGreatDoor
open Tryz
abbrev aON:=@List.length_reverse
abbrev aOP:=@congrArg
abbrev aPn:=@List.find?_eq_some_iff_getElem
abbrev aPR:=@Nat.min_le_right
abbrev aQg:=@Go.Lib.run_eql_slice_nil
abbrev aQF:=@Go.info_parts
abbrev aQN:=@List.take_append_of_le_length
abbrev aRo:=@List.getElem_reverse
abbrev aRp:=@List.take_set_of_le
abbrev aRs:=@List.drop_replicate
theorem ax0 (c:ai) (w:World):(Instr.index 158 (.agg #[γ c.x,γ (c.y - 1),γ (c.x - 1),γ c.y,γ (c.x+1),γ c.y,γ c.x,γ (c.y+1)]) (γ 0)).run prog w= .ok (.agg #[γ c.x,γ (c.y - 1)]) w:=by kernel_rfl
theorem ax1 (c:ai) (w:World):(Instr.index 158 (.agg #[γ c.x,γ (c.y - 1),γ (c.x - 1),γ c.y,γ (c.x+1),γ c.y,γ c.x,γ (c.y+1)]) (γ 1)).run prog w= .ok (.agg #[γ (c.x - 1),γ c.y]) w:=by kernel_rfl
theorem ax2 (c:ai) (w:World):(Instr.index 158 (.agg #[γ c.x,γ (c.y - 1),γ (c.x - 1),γ c.y,γ (c.x+1),γ c.y,γ c.x,γ (c.y+1)]) (γ 2)).run prog w= .ok (.agg #[γ (c.x+1),γ c.y]) w:=by kernel_rfl
theorem ax3 (c:ai) (w:World):(Instr.index 158 (.agg #[γ c.x,γ (c.y - 1),γ (c.x - 1),γ c.y,γ (c.x+1),γ c.y,γ c.x,γ (c.y+1)]) (γ 3)).run prog w= .ok (.agg #[γ c.x,γ (c.y+1)]) w:=by kernel_rfl
theorem afJ (c:ai) (j:Nat) (aw:j<4) {b':ai} (h:(dH c).getD j default=b') (w:World):(Instr.index 158 (.agg #[γ c.x,γ (c.y - 1),γ (c.x - 1),γ c.y,γ (c.x+1),γ c.y,γ c.x,γ (c.y+1)]) (γ (j:Int))).run prog w= .ok (.agg #[γ b'.x,γ b'.y]) w:=by
 subst h;have:j=0∨j=1∨j=2∨j=3:=by omega
 rcases this with rfl | rfl | rfl | rfl
 ·exact ax0 c w
 ·exact ax1 c w
 ·exact ax2 c w
 ·exact ax3 c w
theorem agw {c:ai} {j:Nat} (aw:j<4):c.x - 1≤((dH c).getD j default).x∧((dH c).getD j default).x≤c.x+1∧c.y - 1≤((dH c).getD j default).y∧((dH c).getD j default).y≤c.y+1:=by
 have:j=0∨j=1∨j=2∨j=3:=by omega
 rcases this with rfl | rfl | rfl | rfl<;>simp [dH]<;>omega
theorem afH (w0:World) (f:av) (P F A:Option Addr) (cv ff c b:Nat) (far:List Int) (l:List b5) (bg:ai) (a cX:ai) (w:World) (jO:Ext w0 w) (hf:f.a7=0) (bL:bz.aQ 8 w0 P cv f.places) (aE:aO w b [γ f.wide,γ f.high, .slice P f.places.length cv,γ bg.x,γ bg.y, .slice F far.length ff, .slice A l.length c] 163 (0,0)) (af:w0.heap.size≤b) (cw:bz.aM 3 8 w w0.heap.size (Φ.ab F) F ff far) (Bl:b5.rep.aM 225 32 w w0.heap.size (Φ.ab A) A c l) (abG:∀ q∈Φ.ab F,q=b→False) (N2:∀ q∈Φ.ab A,q=b→False) (arH:∀ q∈Φ.ab A,q∈Φ.ab F→False) (hs:q3 f a bg far l cX []) (hv:vI f bg far) (ew:f.dV bg=true) (arx:l.length+5 * und far≤20000):
  Calls prog 125 #[.pointer (a_ b)] w (λ e w'=>∃ Nr bS cn Ot,e= .returned (.tuple #[])∧aO w' b [γ f.wide,γ f.high, .slice P f.places.length cv,γ bg.x,γ bg.y, .slice F Nr.length ff, .slice bS ((Ot:List b5).length) cn] 163 (0,0)∧bz.aM 3 8 w' w0.heap.size (Φ.ab F) F ff Nr∧mN f a bg Nr∧Mod (b::(Φ.ab F++Φ.ab A)) w w'):=by
 obtain ⟨g1,g2,g3,g4,g5,g6⟩:=av.hg hf;have wE:∀ q∈b::(Φ.ab F++Φ.ab A),w0.heap.size≤q:=λ q I=>(aNg.1 I).elim (λ h=>by omega) λ h=>(aNi.1 h).elim (λ h=>(cw.lt q h).1) λ h=>(Bl.lt q h).1;obtain ⟨_,_,aLg,aLh,aLi,aLj⟩:=av.idx hf ew;refine cx (n:=108) func125 Z Z Z ?_;refine aK Z<|vm Z<|aa (b3 Z)<|aa (au aaf Z)<|aa (aB Z (aE.par [γ bg.x,γ bg.y] b2 bs Z))<|c0 lM Z (qF w0 f P F A cv ff c b far l bg bg _ (Ext.mod jO (Mod.bN (b::(Φ.ab F++Φ.ab A)) w) wE) hf bL aE (by first | omega | (dsimp only;omega))) λ dk gH=> ?_;have dM:=(Mod.bN (b::(Φ.ab F++Φ.ab A)) w).trans (Mod.aP gH);refine aT Z<|bT<| ?_;have aE:=aE.later gH;have cw:=cw.later gH;have Bl:=Bl.later gH;refine gi (λ cJ cu aV=>∃ eu:List Int,∃ dQ:List b5,∃ cc:Option Addr,∃ bd:Nat,∃ fo:ai,cu= [(0, .pointer (a_ b)),(2,γ (bg.y * f.wide+bg.x))]∧cJ=(dQ.length+5 * und eu)∧Mod (b::(Φ.ab F++Φ.ab A)) w aV∧aO aV b [γ f.wide,γ f.high, .slice P f.places.length cv,γ bg.x,γ bg.y, .slice F eu.length ff, .slice cc dQ.length bd] 163 (0,0)∧bz.aM 3 8 aV w0.heap.size (Φ.ab F) F ff eu∧b5.rep.aM 225 32 aV w0.heap.size (Φ.ab cc) cc bd dQ∧(q3 f a bg eu dQ fo [])∧(vI f bg eu)∧(dQ.length+5 * und eu≤20000)∧(∀ q∈Φ.ab cc,q∈Φ.ab A∨w.heap.size≤q)∧(∀ q∈Φ.ab F,q=b→False)∧(∀ q∈Φ.ab cc,q=b→False)∧(∀ q∈Φ.ab cc,q∈Φ.ab F→False)) _ _ ⟨far,l,A,c,cX,Z,Z,dM,aE,cw,Bl,hs,hv,arx,λ q I=> .inl I,abG,N2,arH⟩ (ih Z) ?_;rintro avW aju EH ⟨eu,dQ,cc,bd,fo,rfl,rfl,mL,iJ,j0,nD,gh,nQ,DE,TF,II,FE,Dg⟩;have:=mL.size;have afM:=iJ.lt;have uy:=bZ j0.lt;have KT:=bZ nD.lt;obtain ⟨aLm,aLn,aLo⟩:=i' hf gh.len ew;refine aI<|aI<| ?_;rcases Yj (decide (0<(dQ.length:Int))) ((decide (f.ao eu bg<0)) || (decide ((dQ.getD 0 default).all≤f.ao eu bg))) with bU | ⟨bU,ss⟩ | ⟨bU,ss⟩
 ·have Tz:=axE gh nQ (by have pk:=aPc bU;omega);refine dw [(3,0),(4,0),(10,0),(13,0),(19,0),(22,0),(26,0),(29,0)] [0,1,2,3,4,5,6,7,8,9,10,11,12,13,14,15,16,17,18,19,20,21,22,23,24,25,26,27,28,29,30,31,32] ?_;refine bn Z Z<|ax Z (λ _=>b3 Z)<|ax Z (λ _=>au Dn Z)<|cP Z Z iJ ov Z<|rk Z Z IU Z (λ _ x=>Ld _ dQ.length _ _) Z<|ax Z (λ _=>hO Z Z)<|ax Z (λ _=>jA (gy Z bU))<|cV Z Z<|cV Z Z<|cV Z Z<|i_ Z Z<|cV Z Z<|cV Z Z<|i_ Z Z<|cV Z Z<|cV Z Z<|p9 Z Z Z Z Z Z<|p9 Z Z Z Z Z Z<|p9 Z Z Z Z Z Z<|p9 Z Z Z Z Z Z<|p9 Z Z Z Z Z Z<|p9 Z Z Z Z Z Z<|p9 Z Z Z Z Z Z<|p9 Z Z Z Z Z Z<| ?_;refine p9 Z Z Z Z Z Z<|p9 Z Z Z Z Z Z<|p9 Z Z Z Z Z Z<|p9 Z Z Z Z Z Z<|p9 Z Z Z Z Z Z<|p9 Z Z Z Z Z Z<|p9 Z Z Z Z Z Z<|cV Z Z<|ax Z (λ _=>oV Z Z)<|fn λ y3 ir=> ?_;have mJ:=mL.trans (Mod.aP ir);refine br<|hP Z<|ej<|ei<|eU<|eh<|ne<|dS .nil<| ?_;have nD:=nD.later ir;have j0:=j0.later ir;have iJ:=iJ.later ir;exact ⟨eu,cc,bd,dQ,Z,iJ,j0,Tz,mJ⟩
 ·have yt:0<dQ.length:=by simpa using bU
  obtain ⟨bI,DS⟩:∃ bI,dQ.getD 0 default=bI:=⟨_,rfl⟩;have JS:bI∈dQ:=by rw [← DS];exact mr yt
  obtain ⟨aJO,aJP,aJQ,aJR,aJS,aJT,aJU,aJV,aJW⟩:=gh.node hf ew JS;have Ao:=av.jr (gh.all bI JS).2;obtain ⟨aMV,aMW,aMX⟩:=i' hf gh.len Ao;have qg:f.ao eu bg<0∨bI.all≤f.ao eu bg:=by rw [DS] at ss;rw [aNG,aM8,aM8] at ss;exact ss
  refine dw [(3,0),(4,0),(10,0),(13,0),(19,0),(22,0),(26,0),(29,0)] [0,1,2,3,4,5,6,7,8,9,10,11,12,13,14,15,16,17,18,19,20,21,22,23,24,25,26,27,28,29,30,31,32] ?_;have BQ:=(i' hf gh.len ew).1;refine bn Z Z<|ax Z (λ _=>b3 Z)<|ax Z (λ _=>au Dn Z)<|cP Z Z iJ ov Z<|rk Z Z IU Z (λ _ x=>Ld _ dQ.length _ _) Z<|ax Z (λ _=>hO Z Z)<|ax Z (λ _=>jA (gy Z bU))<|eQ Z Z Z<|bR Z Z (λ hc _=>b3 Z)<|bR Z Z (λ hc _=>au nL Z)<|dE Z Z (λ hc _ x=>aB Z ((iJ.later x).one fI Z))<|eQ Z Z Z<|bR Z Z (λ hc _=>bX ((bg.y * f.wide+bg.x).toNat) underlying46 cr Z Z (j0.has.bw (aZ ((bg.y * f.wide+bg.x).toNat) (by omega))) (by (try simp only [cq] at hc);omega) (by omega))<|dE Z Z (λ hc _ x=>aB Z (Φ.aQ.dj dA ((j0.later x).has.cg (aZ ((bg.y * f.wide+bg.x).toNat) (by omega))) (z7 hf gh.len ew) Z a6))<|bR Z Z (λ hc _=>blt Z Z)<|eQ Z Z Z<|eQ Z Z Z<|bR Z Z (λ hc _=>b3 (gt hc Z))<|bR Z Z (λ hc _=>au Dn (gt hc Z))<|dE Z Z (λ hc _ x=>aB (gt hc Z) ((iJ.later x).one ov Z))<|bR Z Z (λ hc _=>bX 0 underlying161 nM (gt hc Z) Z (nD.has.bw (aZ 0 (by (try simp only [cq] at hc);omega))) Z (by (try simp only [cq] at hc);omega))<|bR Z Z (λ hc _=>au Nk (gt hc Z))<|dE Z Z (λ hc _ x=>aB (gt hc Z) (Φ.aQ.ox DH ((nD.later x).has.cg (aZ 0 (by (try simp only [cq] at hc);omega))) 3 (cj (l:=dQ) (u:=default) (by (try simp only [cq] at hc);omega)) Z a6))<|eQ Z Z Z<| ?_;refine bR Z Z (λ hc _=>b3 (gt hc Z))<|bR Z Z (λ hc _=>au nL (gt hc Z))<|dE Z Z (λ hc _ x=>aB (gt hc Z) ((iJ.later x).one fI Z))<|eQ Z Z Z<|bR Z Z (λ hc _=>bX ((bg.y * f.wide+bg.x).toNat) underlying46 cr (gt hc Z) (gt hc Z) (j0.has.bw (aZ ((bg.y * f.wide+bg.x).toNat) (by omega))) (by (try simp only [cq] at hc);omega) (by omega))<|dE Z Z (λ hc _ x=>aB (gt hc Z) (Φ.aQ.dj dA ((j0.later x).has.cg (aZ ((bg.y * f.wide+bg.x).toNat) (by omega))) (z7 hf gh.len ew) Z a6))<|bR Z Z (λ hc _=>ble (gt hc Z) (gt hc Z))<|bR Z Z (λ hc _=>gv Z Z Z Z)<|ax Z (λ _=>nY Z (gy Z ss))<|fn λ y4 gw=> ?_;have:=gw.size;have iz:=mL.trans (Mod.aP gw);refine br<|gZ Z<|bE<|bT<|aK Z<|aa (b3 Z)<|aa (au Dn Z)<|aa (GR (λ w=>by kernel_rfl) Z)<| ?_;have nD:=nD.later gw;have iJ:=iJ.later gw;have abi:=aBG b cc dQ.length bd w0.heap.size dQ (γ f.wide) (γ f.high) (.slice P f.places.length cv) (γ bg.x) (γ bg.y) (.slice F eu.length ff) _ iJ nD (λ y aH=>(gh.node hf ew aH).2.2.2.2.2.2.2.2) rfl FE yt (by omega);rw [DS] at abi;refine ca api Z Z ((abi).mono ?_);rintro e qO ⟨rfl,pX,E_,OL⟩;refine cF ?_;have:=OL.size;have gU:=iz.md OL (λ q I=>(aNg.1 I).elim (λ h=> .inl (by rw [h];exact aNo)) (λ h=>(TF q h).imp (λ h=>aNe _ (aPZ _ h)) id));refine aa (agX (λ w=>by kernel_rfl) Z)<|dn ZZ Z λ uE tD dT ad8 ek=> ?_;have ke:=gU.trans (Mod.aP dT);refine c9 Z Z ek Z nM Z Z λ AQ jQ ek=> ?_;have jg:=ke.md jQ (λ q I=> .inr (by have:=aMZ.1 I;omega));refine aJ<|aI<|aI<| ?_;refine dw [(3,0),(6,0),(7,0),(9,0)] [0,1,2,3,4,5,6,7,8,9,10] ?_;refine bn Z Z<|ax Z (λ _=>b3 Z)<|ax Z (λ _=>au nL Z)<| ?_;have pX:=(pX.later dT).mod jQ aY;refine cP Z Z pX fI Z<|bn Z Z<|ax Z (λ _=>au RZ Z)<|cS Z (λ _ x=>aB Z ((ek.later x).par [γ bI.cell.x,γ bI.cell.y] b2 bs Z))<|rk Z Z lM Z (λ _ x=>qF w0 f P F cc cv ff bd b eu (cm.nh b5.all dQ) bg bI.cell _ (J (Ext.mod jO jg wE) x) hf bL (pX.later x) (by first | omega | (dsimp only;omega))) Z<| ?_;have j0:=(((j0.later gw).mod OL (λ q I h=>(aNg.1 h).elim (λ h=>II q I h) (λ h=>Dg q h I))).later dT).mod jQ (bl uy);refine ax Z (λ _=>bX ((bI.cell.y * f.wide+bI.cell.x).toNat) underlying46 cr Z Z (j0.has.bw (aZ ((bI.cell.y * f.wide+bI.cell.x).toNat) (by have rq:=(i' hf gh.len Ao).1;omega))) (by omega) (by have rq:=(i' hf gh.len Ao).1;omega))<|cS Z (λ _ x=>aB Z (Φ.aQ.dj dA ((j0.later x).has.cg (aZ ((bI.cell.y * f.wide+bI.cell.x).toNat) (by have rq:=(i' hf gh.len Ao).1;omega))) (z7 hf gh.len Ao) Z a6))<|ax Z (λ _=>ld Z Z)<|fn λ Hg f_=> ?_;have r4:=jg.trans (Mod.aP f_);refine br<| ?_;refine Dc Z (λ yx=> ?_) (λ yx=> ?_)
  ·have aj:=yx;refine ej<|ei<|eh<| ?_;have pX:=pX.later f_;have j0:=j0.later f_;have E_:=((E_.later dT).mod jQ (bl KT)).later f_;exact lT _ _ ⟨eu,cm.nh b5.all dQ,cc,bd,fo,Z,Z,r4,(by first | exact pX | (rw [ab1];exact pX)),j0,E_,gh.azv yt (by rw [DS];exact aj),nQ,by rw [cm.GZ];omega,TF,II,FE,Dg⟩ (by first | (rw [cm.GZ];omega) | omega) (ih Z)
  ·have aj:f.ao eu bI.cell<0:=by omega
   obtain ⟨iN,acq⟩:=gh.new hf (av.OW f bg) yt (by rw [DS];exact aj);rw [DS] at iN acq;have T3:=aAL gh hf yt DS aj nQ qg;refine bE<|aI<| ?_;refine dw [(3,0),(6,0),(7,0),(9,0),(11,3)] [0,1,2,3,4,5,6,7,8,9,10,11] ?_;refine bn Z Z<|ax Z (λ _=>b3 Z)<|ax Z (λ _=>au nL Z)<| ?_;have pX:=pX.later f_;refine cP Z Z pX fI Z<|bn Z Z<|ax Z (λ _=>au RZ Z)<| ?_;have ek:=ek.later f_;refine cS Z (λ _ x=>aB Z ((ek.later x).par [γ bI.cell.x,γ bI.cell.y] b2 bs Z))<|rk Z Z lM Z (λ _ x=>qF w0 f P F cc cv ff bd b eu (cm.nh b5.all dQ) bg bI.cell _ (J (Ext.mod jO r4 wE) x) hf bL (pX.later x) (by first | omega | (dsimp only;omega))) Z<|ax Z (λ _=>au aah Z)<|cP Z Z ek a6 Z<| ?_;have j0:=j0.later f_;refine ax Z (λ _=>bX ((bI.cell.y * f.wide+bI.cell.x).toNat) underlying46 cr Z Z (j0.has.bw (aZ ((bI.cell.y * f.wide+bI.cell.x).toNat) (by have rq:=(i' hf gh.len Ao).1;omega))) (by omega) (by have rq:=(i' hf gh.len Ao).1;omega))<|dC Z Z Z λ s4 iw Q hK=>so (q':=bI.far) (j:=0) (i:=((bI.cell.y * f.wide+bI.cell.x).toNat)) (j0.later iw) Φ.c6 (z7 hf gh.len Ao) Z Z Z Z (λ _ cs h=>by have xf:=(show _∧_ from h).2;obtain rfl:=dA h;exact ⟨rfl,cI.2 (by omega)⟩) Z Z cr λ V3 wW Q2=>hK _ _ ?_;have k4:=r4.trans (Mod.aP iw);have xG:=k4.md wW (λ q I=> .inl (aNe _ (aQa _ I)));refine fn λ xu dm=> ?_;have k5:=xG.trans (Mod.aP dm);refine br<|aF<|aa (au RZ Z)<| ?_;have ek:=ek.later iw;have zQ:∀ q∈Φ.ab F,q=tD→False:=λ q I af=>by (have:=uy q I;omega)
   have ek:=(ek.mod wW (λ I=>zQ _ I rfl)).later dm;refine aa (aB Z (ek.par [γ bI.cell.x,γ bI.cell.y] b2 bs Z))<| ?_;have Q2:=Q2.later dm;have Gm:∃ z6,eu.set (f.at_ bI.cell) bI.far=z6:=⟨_,rfl⟩;obtain ⟨z6,Gm⟩:=Gm;rw [Gm] at iN acq T3;have ab1:z6.length=eu.length:=by rw [← Gm,aNj]
   have hz:bz.aM 3 8 xu w0.heap.size (Φ.ab F) F ff z6:=by rw [← Gm];exact Q2
   have arT:f.ao z6 bI.cell=bI.far:=by rw [← Gm];exact av.NA hf gh.len Ao
   refine c0 aai Z (afI bI.cell _ (by first | omega | (dsimp only;omega))) λ V6 iy=> ?_;have CI:=k5.trans (Mod.aP iy);refine vm Z<|aJ<|bT<| ?_;have dW:=(J dm iy);have pX:=((pX.later iw).mod wW (λ I=>II _ I rfl)).later dW;have E_:=((((E_.later dT).mod jQ (bl KT)).later (J f_ iw)).mod wW Dg).later dW;have hz:=hz.later iy;have ek:=ek.later iy;refine gi (λ cJ cu aV=>∃ j:Nat,∃ iO:List b5,∃ cz:Option Addr,∃ bM:Nat,cu= [(0, .pointer (a_ b)),(2,γ (bg.y * f.wide+bg.x)),(3, .pointer (a_ tD)),(14, .pointer (a_ b)),(15, .pointer (a_ b)),(16, .pointer (some ⟨b,6,none⟩)),(17, .slice cc dQ.length bd),(18,γ (dQ.length:Int)),(19, .bool (decide (0<(dQ.length:Int)))),(20, .bool true),(21, .pointer (a_ b)),(22, .pointer (a_ b)),(23, .pointer (some ⟨b,5,none⟩)),(24, .slice F eu.length ff),(25,γ (bg.y * f.wide+bg.x)),(26, .pointer (some ⟨et F,jR F+((bg.y * f.wide+bg.x).toNat) * 1,none⟩)),(27,γ (f.ao eu bg)),(28, .bool (decide (f.ao eu bg<0))),(29, .bool (decide (f.ao eu bg<0))),(30,dK ((decide (f.ao eu bg<0))== false) (.pointer (a_ b))),(31,dK ((decide (f.ao eu bg<0))== false) (.pointer (a_ b))),(32,dK ((decide (f.ao eu bg<0))== false) (.pointer (some ⟨b,6,none⟩))),(33,dK ((decide (f.ao eu bg<0))== false) (.slice cc dQ.length bd)),(34,dK ((decide (f.ao eu bg<0))== false) (.pointer (some ⟨et cc,jR cc+0 * 4,none⟩))),(35,dK ((decide (f.ao eu bg<0))== false) (.pointer (some ⟨et cc,jR cc+0 * 4+3,none⟩))),(36,dK ((decide (f.ao eu bg<0))== false) (γ ((dQ.getD 0 default).all))),(37,dK ((decide (f.ao eu bg<0))== false) (.pointer (a_ b))),(38,dK ((decide (f.ao eu bg<0))== false) (.pointer (a_ b))),(39,dK ((decide (f.ao eu bg<0))== false) (.pointer (some ⟨b,5,none⟩))),(40,dK ((decide (f.ao eu bg<0))== false) (.slice F eu.length ff)),(41,dK ((decide (f.ao eu bg<0))== false) (γ (bg.y * f.wide+bg.x))),(42,dK ((decide (f.ao eu bg<0))== false) (.pointer (some ⟨et F,jR F+((bg.y * f.wide+bg.x).toNat) * 1,none⟩))),(43,dK ((decide (f.ao eu bg<0))== false) (γ (f.ao eu bg))),(44,dK ((decide (f.ao eu bg<0))== false) (.bool (decide ((dQ.getD 0 default).all≤f.ao eu bg)))),(45, .bool ((decide (f.ao eu bg<0)) || (decide ((dQ.getD 0 default).all≤f.ao eu bg)))),(46, .bool true),(47, .pointer (a_ b)),(48, .pointer (a_ b)),(49, .pointer (some ⟨b,6,none⟩)),(50, .iface 223 (.pointer (some ⟨b,6,none⟩))),(51, .iface 225 (.agg #[γ bI.cell.x,γ bI.cell.y,γ bI.far,γ bI.all])),(52, .agg #[γ bI.cell.x,γ bI.cell.y,γ bI.far,γ bI.all]),(53, .pointer (a_ b)),(54, .pointer (a_ b)),(55, .pointer (some ⟨b,5,none⟩)),(56, .slice F eu.length ff),(57, .pointer (a_ b)),(58, .pointer (a_ tD)),(59, .agg #[γ bI.cell.x,γ bI.cell.y]),(60,γ (bI.cell.y * f.wide+bI.cell.x)),(61, .pointer (some ⟨et F,jR F+((bI.cell.y * f.wide+bI.cell.x).toNat) * 1,none⟩)),(62,γ (f.ao eu bI.cell)),(63, .bool (decide (0≤f.ao eu bI.cell))),(64, .pointer (a_ b)),(65, .pointer (a_ b)),(66, .pointer (some ⟨b,5,none⟩)),(67, .slice F eu.length ff),(68, .pointer (a_ b)),(69, .pointer (a_ tD)),(70, .agg #[γ bI.cell.x,γ bI.cell.y]),(71,γ (bI.cell.y * f.wide+bI.cell.x)),(72, .pointer (some ⟨tD,2,none⟩)),(73,γ bI.far),(74, .pointer (some ⟨et F,jR F+((bI.cell.y * f.wide+bI.cell.x).toNat) * 1,none⟩)),(75, .pointer (a_ tD)),(76, .agg #[γ bI.cell.x,γ bI.cell.y]),(77, .agg #[γ bI.cell.x,γ (bI.cell.y - 1),γ (bI.cell.x - 1),γ bI.cell.y,γ (bI.cell.x+1),γ bI.cell.y,γ bI.cell.x,γ (bI.cell.y+1)]),(78,γ (j:Int))]∧cJ=4 - j∧Mod (b::(Φ.ab F++Φ.ab A)) w aV∧aO aV tD [γ bI.cell.x,γ bI.cell.y,γ bI.far,γ bI.all] 225 (0,0)∧bz.aM 3 8 aV w0.heap.size (Φ.ab F) F ff z6∧aO aV b [γ f.wide,γ f.high, .slice P f.places.length cv,γ bg.x,γ bg.y, .slice F eu.length ff, .slice cz iO.length bM] 163 (0,0)∧b5.rep.aM 225 32 aV w0.heap.size (Φ.ab cz) cz bM iO∧(j≤4)∧(q3 f a bg z6 iO bI.cell (((dH bI.cell).drop j).filter f.ground))∧(iO.length+1≤dQ.length+j)∧(∀ q∈Φ.ab cz,q∈Φ.ab A∨w.heap.size≤q)∧(∀ q∈Φ.ab cz,q=tD→False)∧(∀ q∈Φ.ab cz,q=b→False)∧(∀ q∈Φ.ab cz,q∈Φ.ab F→False)) _ _ ⟨0,cm.nh b5.all dQ,cc,bd,Z,Z,CI,ek,hz,pX,E_,by omega,iN,by rw [cm.GZ];omega,TF,(λ q I af=>by (have:=KT q I;omega)),FE,Dg⟩ (eS Z Z Z) ?_;rintro wY aDP uF ⟨j,iO,cz,bM,rfl,rfl,jX,ek,hz,gI,vr,aw,iN,nP,Jy,zS,vR,ou⟩;have aye:=ek.lt;have Pw:=bZ hz.lt;have ayf:=gI.lt;have VM:=bZ vr.lt;refine aF<|fB Z Z<|aJ<|aI<| ?_;refine fH Z (λ arc=> ?_) (λ arc=> ?_)
   ·refine bE<|aI<|bT<|aF<| ?_;obtain ⟨b',ib⟩:∃ b',(dH bI.cell).getD j default=b':=⟨_,rfl⟩;have TQ:=agw (c:=bI.cell) (j:=j) (by omega);rw [ib] at TQ;refine aa (On Z Z (afJ bI.cell j (by omega) ib _))<|dn sC Z λ K7 aEX mH aIB r7=> ?_;have xI:=jX.trans (Mod.aP mH);have aKO:=r7.lt;refine c9 Z Z r7 Z bs Z Z λ V_ uf r7=> ?_;have:=uf.size;have Hz:=xI.md uf (λ q I=> .inr (by have:=aMZ.1 I;omega));refine aJ<|aK Z<|aa (aB Z (r7.all b2 bs))<| ?_;have gI:=(gI.later mH).mod uf aY;refine c0 R0 Z (UT w0 f P F cz cv ff bM b eu iO bg b' _ (Ext.mod jO Hz wE) hf bL gI) λ V' fr=> ?_;have:=fr.size;have vd:=Hz.trans (Mod.aP fr);refine vm Z<|b0 Z Z<|b0 Z Z<|va Z<|aT Z<|aI<| ?_;rcases Yj (f.ground b') (decide (f.ao z6 b'<0)) with bU | ⟨bU,ss⟩ | ⟨bU,ss⟩
    ·have TV:=iN.avG (by omega) (by rw [ib];exact bU);refine dw [(5,0),(7,0),(8,0),(10,0)] [0,1,2,3,4,5,6,7,8,9,10,11,12] ?_;refine ax rfl (λ _=>jA (gy rfl bU))<|bn rfl rfl<|cV rfl rfl<|cV rfl rfl<|cV rfl rfl<|i_ rfl rfl<|cV rfl rfl<|i_ rfl rfl<|km (v:=undef) (args:= []) rfl rfl rfl rfl rfl rfl lM (λ hc=>nomatch hc) (λ hc=>nomatch hc) rfl<|cV rfl rfl<|i_ rfl rfl<|cV rfl rfl<|ax rfl (λ _=>oV rfl rfl)<|fn λ EI uW=> ?_;have jY:=vd.trans (Mod.aP uW);refine br<|hP Z<|fZ<|cl<|eR Z Z Z<| ?_;have lq:=(J fr uW);have ek:=((ek.later mH).mod uf aY).later lq;have hz:=((hz.later mH).mod uf (c2 λ q I af=>by have:=Pw q I;have:=uy q I;omega)).later lq;have gI:=gI.later lq;have vr:=((vr.later mH).mod uf (bl VM)).later lq;exact eX ⟨j+1,iO,cz,bM,Z,Z,jY,ek,hz,gI,vr,by omega,TV,by omega,Jy,zS,vR,ou⟩
    ·have lj:=av.jr bU;obtain ⟨OR,OS,OT⟩:=i' hf iN.len lj;have aGw:=f.mY (c:=b');have nN:=aft hf bU;refine dw [(5,0),(7,0),(8,0),(10,0)] [0,1,2,3,4,5,6,7,8,9,10,11,12] ?_;refine ax Z (λ _=>jA (gy Z bU))<|bn Z Z<|eQ Z Z Z<|bR Z Z (λ hc _=>b3 Z)<|bR Z Z (λ hc _=>au nL Z)<| ?_;have gI:=gI.later fr;refine dE Z Z (λ hc _ x=>aB Z ((gI.later x).one fI Z))<|eQ Z Z Z<| ?_;have r7:=r7.later fr;refine dE Z Z (λ hc _ x=>aB Z ((r7.later x).all b2 bs))<|km Z Z Z Z Z Z lM (λ hc=>Z) (λ hc _ x=>qF w0 f P F cz cv ff bM b eu iO bg b' _ (J (Ext.mod jO vd wE) x) hf bL (gI.later x) (by first | omega | (dsimp only;omega))) Z<| ?_;have hz:=((hz.later mH).mod uf (c2 λ q I af=>by have:=Pw q I;have:=uy q I;omega)).later fr;have BQ:=(i' hf iN.len lj).1;refine bR Z Z (λ hc _=>bX ((b'.y * f.wide+b'.x).toNat) underlying46 cr Z Z (hz.has.bw (aZ ((b'.y * f.wide+b'.x).toNat) (by omega))) (by (try simp only [cq] at hc);omega) (by omega))<|dE Z Z (λ hc _ x=>aB Z (Φ.aQ.dj dA ((hz.later x).has.cg (aZ ((b'.y * f.wide+b'.x).toNat) (by omega))) (z7 hf iN.len lj) Z a6))<|bR Z Z (λ hc _=>blt Z Z)<|ax Z (λ _=>nY Z (gy Z ss))<|fn λ Hi kv=> ?_;have:=kv.size;have ob:=vd.trans (Mod.aP kv);refine br<|gZ Z<|rg<|vm Z<| ?_;have r7:=r7.later kv;refine aa (aB Z (r7.all b2 bs))<|aa (au aah Z)<| ?_;have ek:=((ek.later mH).mod uf aY).later (J fr kv);refine bA Z ek a6 Z<|vm Z<|fl Z Z<| ?_;have vr:=((vr.later mH).mod uf (bl VM)).later (J fr kv);have gI:=gI.later kv;refine ca R1 Z Z ((UX w0 f P F cz cv ff bM b eu iO bg b' (bI.far+(oU f b')) _ (Ext.mod jO ob wE) hf bL gI af vr vR (λ y aH=>(iN.node hf ew aH).2.2.2.2.2.2.2.2) (by omega) (by omega) (by omega) (by omega)).mono ?_);rintro e ahy ⟨aiq,amb,rfl,ajA,ajN,arG,TE,UC⟩;refine cF ?_;have Lu:=ob.md UC (λ q I=>(aNg.1 I).elim (λ h=> .inl (by rw [h];exact aNo)) (λ h=>(Jy q h).imp (λ h=>aNe _ (aPZ _ h)) id));have as4:=iN.avF (n:=⟨b',bI.far+(oU f b'),bI.far+(oU f b')+av.iZ bg b'⟩) (av.OW f bg) (by omega) (by rw [ib];exact bU) (by rw [ib]) (by rw [ib,arT,← nN]) (by rw [ib]);refine nl<|cl<|eR Z Z Z<| ?_;have ek:=ek.mod UC (λ I=>(aNg.1 I).elim (λ h=>by omega) (λ h=>(show ∀ q,q∈Φ.ab cz→q=tD→False from λ q h af=>by (exact zS q h af)) _ h rfl));have hz:=(hz.later kv).mod UC (λ q I h=>(aNg.1 h).elim (λ h=>II q I h) (λ h=>ou q h I));exact eX ⟨j+1,cm.push b5.all iO ⟨b',bI.far+(oU f b'),bI.far+(oU f b')+av.iZ bg b'⟩,aiq,amb,Z,Z,Lu,ek,hz,ajA,ajN,by omega,as4,by rw [cm.KC];omega,(λ q I=>(TE q I).elim (Jy q) (λ h=> .inr (by omega))),(gz TE zS),arG,(λ q I af=>by (exact aNq (TE q I) (λ adW=>by (exact ou q adW af)) (λ adW=>by (have:=Pw q af;have:=uy q af;omega))))⟩
    ·have lj:=av.jr bU;obtain ⟨OR,OS,OT⟩:=i' hf iN.len lj;have TV:=iN.avE (by omega) (by rw [ib];have pk:=aPc ss;omega) (by rw [ib];exact bU);refine dw [(5,0),(7,0),(8,0),(10,0)] [0,1,2,3,4,5,6,7,8,9,10,11,12] ?_;refine ax Z (λ _=>jA (gy Z bU))<|bn Z Z<|eQ Z Z Z<|bR Z Z (λ hc _=>b3 Z)<|bR Z Z (λ hc _=>au nL Z)<| ?_;have gI:=gI.later fr;refine dE Z Z (λ hc _ x=>aB Z ((gI.later x).one fI Z))<|eQ Z Z Z<| ?_;have r7:=r7.later fr;refine dE Z Z (λ hc _ x=>aB Z ((r7.later x).all b2 bs))<|km Z Z Z Z Z Z lM (λ hc=>Z) (λ hc _ x=>qF w0 f P F cz cv ff bM b eu iO bg b' _ (J (Ext.mod jO vd wE) x) hf bL (gI.later x) (by first | omega | (dsimp only;omega))) Z<| ?_;have hz:=((hz.later mH).mod uf (c2 λ q I af=>by have:=Pw q I;have:=uy q I;omega)).later fr;have BQ:=(i' hf iN.len lj).1;refine bR Z Z (λ hc _=>bX ((b'.y * f.wide+b'.x).toNat) underlying46 cr Z Z (hz.has.bw (aZ ((b'.y * f.wide+b'.x).toNat) (by omega))) (by (try simp only [cq] at hc);omega) (by omega))<|dE Z Z (λ hc _ x=>aB Z (Φ.aQ.dj dA ((hz.later x).has.cg (aZ ((b'.y * f.wide+b'.x).toNat) (by omega))) (z7 hf iN.len lj) Z a6))<|bR Z Z (λ hc _=>blt Z Z)<|ax Z (λ _=>nY Z (gy Z ss))<|fn λ Wa A2=> ?_;have E0:=vd.trans (Mod.aP A2);refine br<|hP Z<|fZ<|cl<|eR Z Z Z<| ?_;have qy:=(J fr A2);have ek:=((ek.later mH).mod uf aY).later qy;have hz:=hz.later A2;have gI:=gI.later A2;have vr:=((vr.later mH).mod uf (bl VM)).later qy;exact eX ⟨j+1,iO,cz,bM,Z,Z,E0,ek,hz,gI,vr,by omega,TV,by omega,Jy,zS,vR,ou⟩
   ·refine ej<|ei<|eU<|eh<|cl<| ?_;exact lT _ _ ⟨z6,iO,cz,bM,bI.cell,Z,Z,jX,(by first | exact gI | (rw [ab1];exact gI)),hz,vr,(by have e:j=4:=(by omega);subst e;exact iN),T3,by omega,Jy,II,vR,ou⟩ (by first | (rw [cm.GZ];omega) | omega) (ih Z)
 ·have yt:0<dQ.length:=by simpa using bU
  have Tz:=axD gh nQ yt (by rw [aNO,aM7,aM7] at ss;omega) (by rw [aNO,aM7,aM7] at ss;omega);refine dw [(3,0),(4,0),(10,0),(13,0),(19,0),(22,0),(26,0),(29,0)] [0,1,2,3,4,5,6,7,8,9,10,11,12,13,14,15,16,17,18,19,20,21,22,23,24,25,26,27,28,29,30,31,32] ?_;have BQ:=(i' hf gh.len ew).1;refine bn Z Z<|ax Z (λ _=>b3 Z)<|ax Z (λ _=>au Dn Z)<|cP Z Z iJ ov Z<|rk Z Z IU Z (λ _ x=>Ld _ dQ.length _ _) Z<|ax Z (λ _=>hO Z Z)<|ax Z (λ _=>jA (gy Z bU))<|eQ Z Z Z<|bR Z Z (λ hc _=>b3 Z)<|bR Z Z (λ hc _=>au nL Z)<|dE Z Z (λ hc _ x=>aB Z ((iJ.later x).one fI Z))<|eQ Z Z Z<|bR Z Z (λ hc _=>bX ((bg.y * f.wide+bg.x).toNat) underlying46 cr Z Z (j0.has.bw (aZ ((bg.y * f.wide+bg.x).toNat) (by omega))) (by (try simp only [cq] at hc);omega) (by omega))<|dE Z Z (λ hc _ x=>aB Z (Φ.aQ.dj dA ((j0.later x).has.cg (aZ ((bg.y * f.wide+bg.x).toNat) (by omega))) (z7 hf gh.len ew) Z a6))<|bR Z Z (λ hc _=>blt Z Z)<|eQ Z Z Z<|eQ Z Z Z<|bR Z Z (λ hc _=>b3 (gt hc Z))<|bR Z Z (λ hc _=>au Dn (gt hc Z))<|dE Z Z (λ hc _ x=>aB (gt hc Z) ((iJ.later x).one ov Z))<|bR Z Z (λ hc _=>bX 0 underlying161 nM (gt hc Z) Z (nD.has.bw (aZ 0 (by (try simp only [cq] at hc);omega))) Z (by (try simp only [cq] at hc);omega))<|bR Z Z (λ hc _=>au Nk (gt hc Z))<|dE Z Z (λ hc _ x=>aB (gt hc Z) (Φ.aQ.ox DH ((nD.later x).has.cg (aZ 0 (by (try simp only [cq] at hc);omega))) 3 (cj (l:=dQ) (u:=default) (by (try simp only [cq] at hc);omega)) Z a6))<|eQ Z Z Z<| ?_;refine bR Z Z (λ hc _=>b3 (gt hc Z))<|bR Z Z (λ hc _=>au nL (gt hc Z))<|dE Z Z (λ hc _ x=>aB (gt hc Z) ((iJ.later x).one fI Z))<|eQ Z Z Z<|bR Z Z (λ hc _=>bX ((bg.y * f.wide+bg.x).toNat) underlying46 cr (gt hc Z) (gt hc Z) (j0.has.bw (aZ ((bg.y * f.wide+bg.x).toNat) (by omega))) (by (try simp only [cq] at hc);omega) (by omega))<|dE Z Z (λ hc _ x=>aB (gt hc Z) (Φ.aQ.dj dA ((j0.later x).has.cg (aZ ((bg.y * f.wide+bg.x).toNat) (by omega))) (z7 hf gh.len ew) Z a6))<|bR Z Z (λ hc _=>ble (gt hc Z) (gt hc Z))<|bR Z Z (λ hc _=>gv Z Z Z Z)<|ax Z (λ _=>nY Z (gy Z ss))<|fn λ ahB zc=> ?_;have WO:=mL.trans (Mod.aP zc);refine br<|hP Z<|ej<|ei<|eU<|eh<|ne<|dS .nil<| ?_;have nD:=nD.later zc;have j0:=j0.later zc;have iJ:=iJ.later zc;exact ⟨eu,cc,bd,dQ,Z,iJ,j0,Tz,WO⟩
def awx:Go.Shelf.Ren:=⟨fun | 212=> 146 | 263=> 159 | 264=> 160 | n=>n,fun | 46=> 91 | 53=> 129 | 51=> 121 | 146=> 122 | 148=> 242 | n=>n,fun | n=>n⟩
theorem auU:Go.Proofs.Lays.n212 prog awx:= {
 mixed:=by kernel_rfl
 f212:=func146.trans (aOP some (by kernel_rfl))
 f263:=func159.trans (aOP some (by kernel_rfl))
 f264:=func160.trans (aOP some (by kernel_rfl))
 t46:=underlying91
 a46:=isAgg91
 z46:=sizeOf91
 v46:=zeroValue91
 t51:=underlying121
 a51:=isAgg121
 z51:=sizeOf121
 v51:=zeroValue121
 t53:=underlying129
 a53:=isAgg129
 z53:=sizeOf129
 v53:=zeroValue129
 t146:=underlying122
 a146:=isAgg122
 z146:=sizeOf122
 v146:=zeroValue122
 t148:=underlying242
 a148:=isAgg242
 z148:=sizeOf242
 v148:=zeroValue242 }
theorem mul_one (n:Nat) (hn:n<18446744073709551616) (w:World):Calls prog 146 #[.int .u64 1, .int .u64 (n:Int)] w (λ e w'=>e= .returned (.tuple #[.int .u64 0, .int .u64 (n:Int)])∧Ext w w'):=by
 refine (Any.bits_Mul auU 1 n (by decide) hn w).mono λ e w' ⟨κ,τ⟩=> ?_;subst τ;rw [κ];refine ⟨?_,Ext.bN _⟩;rw [Nat.one_mul,Nat.div_eq_of_lt hn,aPQ hn];rfl
section
variable {w:World} {B c g:Nat} {l:List Int}
def aE5 (l:List Int) (x:Int):Nat:=l.countP λ y=>decide (y<x)
def sF (n:Int):Value:= .int .i64 n
theorem aax {w:World} {B:Nat}:∀ {ps:List (List Nat×List Value)} {l:List Int},dt (λ x a=>bz.own w B x.1 x.2 a) ps l→(ps.map (·.2)).flatten=l.map sF∧∀ x∈l,dB x
 | [], [],_=>⟨rfl,by simp⟩
 | p::ps,a::l,h=>by
  obtain ⟨⟨_,κ,τ⟩,aq⟩:=h;obtain ⟨e,bk⟩:=aax aq;refine ⟨by rw [aNF,aNW,e,κ];rfl,λ x hx=> ?_⟩;rcases aNg.1 hx with rfl | hx
  ·exact τ
  ·exact bk x hx
 | [],_::_,h=>h.elim
 | _::_, [],h=>h.elim
theorem acC {w:World}:∀ {l:List Int},(∀ x∈l,dB x)→dt (λ es a=>bz.has w es a) (l.map λ n=> [sF n]) l
 | [],_=>trivial
 | a::l,h=>⟨⟨rfl,h a aNo⟩,acC λ x hx=>h x (aNe _ hx)⟩
theorem ap1 (l:List Int):(l.map λ n=> [sF n]).flatten=l.map sF:=by
 induction l with
 | nil=>rfl
 | cons a l bu=>rw [aNF,aNW,bu];rfl
theorem atO (h:bz.aM 3 8 w B (Φ.ab (some ⟨g,0,none⟩)) (some ⟨g,0,none⟩) c l):
  ∃ cur:List Value,aO w g cur 3 (0,0)∧B≤g∧c≤maxLen∧cur.length=c∧l.length≤c∧cur.take l.length=l.map sF∧(∀ u∈cur,∃ n:Int,u= .int .i64 n)∧∀ x∈l,dB x:=by
 obtain ⟨af,ps,hf,hn,bk,ep⟩:=h;obtain ⟨e,dp⟩:=aax ep;rw [e] at bk;obtain ⟨_,τ⟩:=bk;rcases τ with ⟨τ,_⟩ | ⟨g',cap,cur,hv,aS,dP,BX,qf,hs,aD,ar⟩
 ·cases τ
 ·injection hv with aR a1 cL
  injection aR with aR
  injection aR with aR
  subst aR cL;refine ⟨cur.toList,dP,aS,qf,by have hs:cur.size=c * 1:=hs;rw [aPK] at hs;simpa using hs,BX,by have aD:cur.toList.take (l.length * 1)=_:=aD;rwa [aPK] at aD,λ u hu=> ?_,dp⟩;obtain ⟨j,aw,rfl⟩:=aNZ.1 hu;exact ar j _ (by rw [← aN1,aM3 aw])
theorem atN {cur:List Value} (h:aO w g cur 3 (0,0)) (aS:B≤g) (qf:c≤maxLen) (hs:cur.length=c) (hn:l.length≤c) (af:l.length * 8≤140737488355328) (aD:cur.take l.length=l.map sF) (ar:∀ u∈cur,∃ n:Int,u= .int .i64 n) (dp:∀ x∈l,dB x):
  bz.aM 3 8 w B (Φ.ab (some ⟨g,0,none⟩)) (some ⟨g,0,none⟩) c l:=by
 refine Φ.aM.GV Φ.rm (acC dp) af ?_;rw [ap1];refine ⟨by rw [aNI];exact (aPK _).symm, .inr ⟨g,c,cur.toArray,rfl,aS,h,hn,qf,by rw [aOq,hs];exact (aPK _).symm, ?_,λ j u hu=> ?_⟩⟩
 ·show cur.toArray.toList.take (l.length * 1)=_;rw [aPK];exact aD
 ·exact ar u (by rw [aP0] at hu;exact aNN hu)
def yX (cur:List Value):Nat→List Value→List Value
 | _, []=>cur
 | o,v::r=>yX (cur.set o v) (o+1) r
theorem aO.setCells {g:Nat} {e:TypeId}:∀ (zs:List Value) (o:Nat) (w:World) (cur:List Value),aO w g cur e (0,0)→aO (w.setCells g o zs) g (yX cur o zs) e (0,0)
 | [],_,_,_,h=>h
 | v::r,o,w,cur,h=>aO.setCells r (o+1) _ _ (h.set o v)
theorem ago:∀ (zs:List Value) (o:Nat) (cur:List Value),o+zs.length≤cur.length→yX cur o zs=cur.take o++zs++cur.drop (o+zs.length)
 | [],o,cur,_=>by simp [yX]
 | v::r,o,cur,h=>by
  rw [aM1] at h;rw [yX,ago r (o+1) _ (by rw [aNj];omega),aM1,List.drop_set_of_lt (by omega),show o+1+r.length=o+(r.length+1) by omega];have:(cur.set o v).take (o+1)=cur.take o++ [v]:=by
   rw [aNs (by rw [aNj];omega),aRp (aNk _),List.getElem_set_self]
  rw [this];simp
theorem agq {u:Value}:∀ (zs:List Value) (o:Nat) (cur:List Value),u∈yX cur o zs→u∈cur∨u∈zs
 | [],_,_,h=> .inl h
 | v::r,o,cur,h=>by
  rcases agq r (o+1) _ h with h | h
  ·rcases aOG h with h | rfl
   ·exact .inl h
   ·exact .inr aNo
  ·exact .inr (aNe _ h)
theorem agp:∀ (zs:List Value) (o:Nat) (cur:List Value),(yX cur o zs).length=cur.length
 | [],_,_=>rfl
 | v::r,o,cur=>by rw [yX,agp r,aNj]
theorem aeY {u:Value} (h:u∈l.map sF):∃ n:Int,u= .int .i64 n:=by
 obtain ⟨n,_,rfl⟩:=aNn.1 h;exact ⟨n,Z⟩
theorem aw8:∀ v∈l.map sF,v.oneCell'=true:=λ v hv=>by obtain ⟨n,rfl⟩:=aeY hv;rfl
theorem Mod.cells (g:Nat):∀ (zs:List Value) (o:Nat) (w:World),Mod [g] w (w.setCells g o zs)
 | [],_,w=>Mod.aP (Ext.bN w)
 | v::r,o,w=>by
  rw [World.setCells];exact (Mod.setCell w ⟨g,o,none⟩ v).trans (Mod.cells g r (o+1) _)
end
section
variable {w:World} {ty:TypeId} {pos:String} {aW:Array Edge} {x:Operand} {k lo c b j:Nat} {v u:Int}
theorem MK {P:Program} {E:List (Nat×Value)} {d:Option Nat} {g:Option (Nat×Bool)} {src dst:TypeId} {k k':IntKind} {i r:Int} (hr:∀ w,(convert src dst (.int k i)).run P w= .ok (.int k' (k'.wrap i)) w) (h:k'.wrap i=r) (hx:ev E x=some (.int k i)):
  cG P E ⟨d, .convert src dst x,ty,pos,aW,g⟩ w (.int k' r) w:=λ n a ha=>by
 subst h;simp only [execOp,ha.ev hx,aNh,hr w,aNb,aNl]
theorem azW {cur:List Value} {zs:List Value} (h:lo+zs.length≤k) (aj:k≤cur.length):(yX cur lo zs).take k=(cur.take k).take lo++zs++(cur.take k).drop (lo+zs.length):=by
 rw [ago _ _ _ (by omega)];have κ:(cur.take lo++zs).length=lo+zs.length:=by rw [aM6,aM9];omega
 rw [aQH,κ,aNr (by rw [κ];exact h),List.take_take,aPu (by omega),List.drop_take]
theorem YZ {n:Nat} {E:List (Nat×Value)} {Q:Exit→Act→World→Prop} {ops:Array Oper} {y:Operand} {rest:List Oper} {aA dl RA sl sc d:Nat} {A D S:Option Addr} {Pc:Addr} {l zs:List Int}
  (h:bz.aM 3 8 w aA (Φ.ab A) A c l) (hA:A=some ⟨b,0,none⟩) (hx:ev E x=some (.slice D dl RA)) (mT:D=some ⟨b,lo,none⟩) (aH:ev E y=some (.slice S sl sc)) (hS:S=some Pc) (TX:∀ (j:Nat) (v:Int),zs[j]? =some v→w.cell? (Pc.add j)=some (γ v)) (bo:∀ v∈zs,dB v)
  (hm:zs.length=Nat.min sl dl) (hle:lo+zs.length≤l.length) (NW:Nat.blt d n=true)
  (aj:∀ aN,Mod (Φ.ab A) w aN→bz.aM 3 8 aN aA (Φ.ab A) A c (l.take lo++zs++l.drop (lo+zs.length))→bQ prog n ops Q rest ((d,γ (zs.length:Int))::E) aN):
  bQ prog n ops Q (⟨some d, .call {callee:= .builtin .copy,args:=#[x,y],argTypes:=#[46, 46]},ty,pos,aW,none⟩::rest) E w:=λ a ha=>by
 subst hA mT hS;obtain ⟨cur,κ,τ,aq,bb,bV,cy,ed,fx⟩:=atO h;have yB:(zs.map sF).length=zs.length:=aNI _;have kF:(Builtin.copy_ #[46, 46] ty #[.slice (some ⟨b,lo,none⟩) dl RA, .slice (some Pc) sl sc]).run prog w= .ok (goInt (zs.map sF).length) (w.setCells b lo (zs.map sF)):=
  run_copy_cells w _ _ ty 3 b lo dl RA Pc sl sc (zs.map sF) underlying46 (by
    obtain ⟨i0,jN,B4,rB,wE⟩:=aQF wG;rw [jN];simp [rB]) (by rw [yB];exact hm)
   (λ j v aw=>by
    rw [aNt] at aw;cases hv:zs[j]? with
    | none=>rw [hv] at aw;cases aw
    | some u=>rw [hv] at aw;rw [← aNf aw];exact TX j u hv)
   (λ j aw=>by rw [yB] at aw;rw [κ.cell,aM3 (by omega)];rfl) (λ j _=>h.free _) aw8
 refine x_ Z ?_;unfold Oper.wp execOp;simp only [resolve,invoke,builtin,aNh,aNl,aNb,aQI,aNF,aOf,ha.ev hx,ha.ev aH,kF];rw [yB];refine aj _ (Mod.cells b _ _ _) (atN (cur:=yX cur lo (zs.map sF)) (aO.setCells _ _ _ _ κ) τ aq (by rw [agp];exact bb) ?_ ?_ ?_ ?_ ?_) _ (ha.put NW _)
 ·have:(l.take lo++zs++l.drop (lo+zs.length)).length=l.length:=by rw [aM6,aM6,aM9,aNE];omega
  rw [this];exact bV
 ·have:(l.take lo++zs++l.drop (lo+zs.length)).length=l.length:=by rw [aM6,aM6,aM9,aNE];omega
  rw [this];obtain ⟨af,_⟩:=h;exact af
 ·have:(l.take lo++zs++l.drop (lo+zs.length)).length=l.length:=by rw [aM6,aM6,aM9,aNE];omega
  rw [this,azW (by rw [yB];exact hle) (by omega),cy,yB,aNx,aNx,aQ3,List.map_drop]
 ·intro u hu;rcases agq _ _ _ hu with hu | hu
  ·exact ed u hu
  ·exact aeY hu
 ·intro u hu;rcases aNi.1 hu with hu | hu
  ·rcases aNi.1 hu with hu | hu
   ·exact fx u (aPr hu)
   ·exact bo u hu
  ·exact fx u (aRm hu)
theorem ay0 (h:lo<c):ez (a_ b) c lo 1=some ⟨b,lo,none⟩:=by
 unfold ez;rw [aM4 (by omega)];show some (Addr.add _ _)=_;unfold Addr.add;split
 ·have:lo=0:=by omega
  subst this;rfl
 ·simp
theorem ayS {N:Nat} (aC:0<k) (κ:k<N):(List.replicate k v++List.replicate (N - k) (0:Int)).take k++List.replicate (Nat.min k (N - k)) v++(List.replicate k v++List.replicate (N - k) (0:Int)).drop (k+(List.replicate (Nat.min k (N - k)) v).length)=List.replicate (k+Nat.min k (N - k)) v++List.replicate (N - (k+Nat.min k (N - k))) (0:Int):=by
 rw [aQN (by rw [aNz];exact aNk _),aNr (by rw [aNz];exact aNk _),aNz,List.drop_append,aNz,aRd (by rw [aNz];omega),aOA,aRs,List.replicate_append_replicate];congr 2;omega
theorem ahi {x:Int} (aC:0≤x) (κ:x<18446744073709551616):IntKind.u64.wrap x=x:=by rw [IntKind.wrap_u64];omega
theorem azF {X:Option Addr} {Bv:Nat} (BO:bz.aQ 8 w X Bv [v]) (aw: [v][j]? =some u):w.cell? ((⟨et X,jR X,none⟩:Addr).add j)=some (γ u):=by
 obtain ⟨b,o,rfl,hc⟩:=Es BO (by simp);rw [show (⟨et (some ⟨b,o,none⟩),jR (some ⟨b,o,none⟩),none⟩:Addr)=⟨b,o,none⟩ from rfl,Il];exact hc j u aw
theorem azG {N:Nat} (h:bz.aQ 8 w (a_ b) c (List.replicate k v++List.replicate (N - k) (0:Int))) (aC:0<k) (aw:(List.replicate (Nat.min k (N - k)) v)[j]? =some u):w.cell? ((⟨b,0,none⟩:Addr).add j)=some (γ u):=by
 obtain ⟨vL,o,e,hc⟩:=Es h (by rw [aM6,aNz];omega);have e:=aNf e;injection e with aR a1
 subst aR;subst a1;rw [Il];have bB:=(aM2.1 aw).1;rw [aNz] at bB;have hm:Nat.min k (N - k)≤k:=Nat.min_le_left _ _;have hu:u=v:=by rw [aOz] at aw;split at aw<;>simp_all
 refine hc j u ?_;rw [aNw (by rw [aNz];omega),aOz,aNd (by omega),hu]
theorem af5 (X:Option Addr) (Bv N:Nat) (v:Int) (w:World) (BO:bz.aQ 8 w X Bv [v]) (aC:0<N) (mU:N≤1000000):
  Calls prog 123 #[.slice X 1 Bv,γ (N:Int)] w (λ e w'=>∃ A c,e= .returned (.slice A (List.replicate N v).length c)∧bz.aM 3 8 w' w.heap.size (Φ.ab A) A c (List.replicate N v)∧Ext w w'):=by
 have Oa:=ayI BO;have asS:=Oa v (aMZ.2 rfl);refine cx (n:=48) func123 Z Z Z ?_;refine aF<|aT Z<|aI<|aK Z<|fB Z Z<|aJ<| ?_;have po:(decide ((N:Int)<0))=false:=by (first | exact aNu (by omega) | simp only [aM7];omega | (rw [aNO];exact ⟨by decide,aNu (by omega)⟩))
 refine hP (by rw [← po];rfl)<|bE<|aK Z<|aa (dr underlying46 Z)<|aa (MK (r:=(1:Int)) (λ _=>by kernel_rfl) (ahi (by omega) (by omega)) Z)<|vm Z<|aa (MK (r:=(N:Int)) (λ _=>by kernel_rfl) (ahi (by omega) (by omega)) Z)<|c0 apj Z (mul_one N (by omega) _) λ xq bm=> ?_;have:=bm.size;refine vm Z<|b0 Z Z<|b0 Z Z<|va Z<|aT Z<|aI<|aK Z<|aa (hO Z Z)<|vm Z<|il Z Z Z<|vm Z<|il Z Z Z<|aa (hO Z Z)<|aa (oV Z Z)<|aJ<| ?_;have S_:(decide (9223372036854775807<(N:Int)))=false:=by (first | exact aNu (by omega) | simp only [aM7];omega | (rw [aNO];exact ⟨by decide,aNu (by omega)⟩))
 refine hP (by rw [← S_];rfl)<|bE<|aK Z<|aa (MK (r:=(N:Int)) (λ _=>by kernel_rfl) fP Z)<|D4 (R:=bz) (by_:=8) (B:=w.heap.size) (c:=N) (zv:=(γ 0)) (q:=0) Φ.rm underlying46 wG Z Z (λ j u h=>AE j u h) (λ _=>⟨Z,cI.2 (by decide)⟩) Z Z Z (by omega) (by omega) (by omega) λ aht Da l2 aIK akk=> ?_;have EY:=J bm l2;refine aT Z<|aK Z<|vm Z<|YZ (zs:= [v]) (lo:=0) akk Z Z Z Z (BO.bw (by simp)) (λ j u aw=>azF (BO.keep EY) aw) Oa (by rw [aPl];exact (aPu (by omega)).symm) (by rw [aNz];simp;omega) Z λ y3 UA L7=> ?_;have L7:bz.aM 3 8 y3 w.heap.size (Φ.ab (a_ Da)) (a_ Da) N (List.replicate 1 v++List.replicate (N - 1) (0:Int)):=by have h:=L7;rw [List.take_zero,aOA,aPl,aRs] at h;exact h
 have mJ:=Ext.mod EY UA (λ q I=>by have:=(L7.lt q I).1;omega);refine aT Z<|aI<|bT<| ?_;refine gi (λ cJ cu aV=>∃ k:Nat,cu= [(4, .slice none 0 0),(7, .slice (a_ Da) N N),(8,γ (k:Int))]∧cJ=N - k∧Ext w aV∧bz.aM 3 8 aV w.heap.size (Φ.ab (a_ Da)) (a_ Da) N (List.replicate k v++List.replicate (N - k) (0:Int))∧(0<k)∧(k≤N)) _ _ ⟨1,Z,Z,mJ,L7,by omega,by omega⟩ (ih Z) ?_;rintro aeQ aDD AO ⟨k,rfl,rfl,nt,QR,sO,aGv⟩;refine aI<|aK Z<|vm Z<|aa (dr underlying46 Z)<|fB Z Z<|aJ<| ?_;refine fH Z (λ v_=> ?_) (λ v_=> ?_)
 ·refine bE<|bT<| ?_;refine dw [(7,3)] [0,1,2,3,4,5,6,7,8,9] ?_;refine bn Z Z<|bn Z Z<|bn Z Z<|ax Z (λ _=>agf k underlying46 cr Z Z Z (by omega))<|bn Z Z<|bn Z Z<|ax Z (λ _=>Vf k k underlying46 cr Z Z Z (by omega) Z)<|dC Z Z Z λ uE iu Q hK=>YZ (zs:=List.replicate (Nat.min k (N - k)) v) (lo:=k) (QR.later iu) Z Z (ay0 (by omega)) Z Z (λ j u aw=>azG (N:=N) (QR.later iu).has sO aw) (λ y aH=>by rw [List.eq_of_mem_replicate aH];exact asS) (by rw [aNz]) (by rw [aNz,aM6,aNz,aNz];have:Nat.min k (N - k)≤N - k:=aPR _ _;omega) Z λ y6 D_ Fe=>hK _ _ ?_;have ke:=J nt iu;have Fe:bz.aM 3 8 y6 w.heap.size (Φ.ab (a_ Da)) (a_ Da) N (List.replicate (k+Nat.min k (N - k)) v++List.replicate (N - (k+Nat.min k (N - k))) (0:Int)):=by have h:=Fe;rw [ayS sO (by omega)] at h;exact h
  have l4:=Ext.mod ke D_ (λ q I=>by have:=(Fe.lt q I).1;omega);have yB:(List.replicate (Nat.min k (N - k)) v).length=Nat.min k (N - k):=aNz;rw [yB];refine ax Z (λ _=>bad Z Z (ll ((by have:Nat.min k (N - k)≤N - k:=aPR _ _;omega))))<|ax Z (λ _=>eV Z)<|fn λ AQ eL=> ?_;have jg:=J l4 eL;refine cl<| ?_;have Fe:=Fe.later eL;exact lT _ _ ⟨(k+Nat.min k (N - k)),Z,Z,jg,Fe,by have:0<Nat.min k (N - k):=Nat.lt_min.2 ⟨sO,by omega⟩;omega,by have:Nat.min k (N - k)≤N - k:=aPR _ _;omega⟩ (by have:0<Nat.min k (N - k):=Nat.lt_min.2 ⟨sO,by omega⟩;have:Nat.min k (N - k)≤N - k:=aPR _ _;omega) (.cons Z (.cons Z (.cons (B6 Z (by omega)) .nil)))
 ·refine ej<|ei<|eU<|eh<|br<|aK Z<|bH Z<|cZ Z Z<| ?_;obtain rfl:k=N:=by omega
  exact ⟨_,_,by rw [aNz];rfl,by have h:=QR;rw [Nat.sub_self,List.replicate_zero,aNA] at h;exact h,nt⟩
end
theorem axU (f:av) (a b:ai) (P:Option Addr) (cv:Nat) (w:World) (bL:bz.aQ 8 w P cv f.places) (he:f.cH a≠0):
  Calls prog 90 #[.agg #[γ f.wide,γ f.high, .slice P f.places.length cv], .agg #[γ a.x,γ a.y], .agg #[γ b.x,γ b.y]] w (λ e w'=>e= .returned (.tuple #[.pointer none,γ (f.cH a)])∧Ext w w'):=by
 have dv:(f.cH a != 0)=true:=by simpa using he
 refine cx (n:=61) func90 Z Z Z ?_;refine fa Z Z λ dk bx bm fQ ag=> ?_;refine jn Z Z λ fT dJ bD j' aG=> ?_;have b7:=J bm bD;refine jn Z Z λ hX iW b4 rD bJ=> ?_;have cY:=J b7 b4;refine va Z<|aT Z<|aF<| ?_;have ag:=ag.later (J bD b4);refine aa (aB Z (ag.all hb gD))<| ?_;have aG:=aG.later b4;refine aa (aB Z (aG.all b2 bs))<|c0 pg Z (p_ f a _ _ _ (bL.keep cY)) λ qO eC=> ?_;have gU:=J cY eC;refine vm Z<|b0 Z Z<|b0 Z Z<|va Z<|aT Z<|aI<|aK Z<|gN Z Z<|aJ<|gZ (gy Z dv)<|aK Z<|va Z<|bH Z<|cU<| ?_;refine ht Z Z Z<| ?_;exact ⟨Z,gU⟩
theorem axV (f:av) (a b:ai) (P:Option Addr) (cv:Nat) (w:World) (bL:bz.aQ 8 w P cv f.places) (N3:f.cH a=0) (he:f.cH b≠0):
  Calls prog 90 #[.agg #[γ f.wide,γ f.high, .slice P f.places.length cv], .agg #[γ a.x,γ a.y], .agg #[γ b.x,γ b.y]] w (λ e w'=>e= .returned (.tuple #[.pointer none,γ (f.cH b)])∧Ext w w'):=by
 have dv:(f.cH a != 0)=false:=by simpa using N3
 have ey:(f.cH b != 0)=true:=by simpa using he
 refine cx (n:=61) func90 Z Z Z ?_;refine fa Z Z λ dk bx bm fQ ag=> ?_;refine jn Z Z λ fT dJ bD j' aG=> ?_;have b7:=J bm bD;refine jn Z Z λ hX iW b4 rD bJ=> ?_;have cY:=J b7 b4;refine va Z<|aT Z<|aF<| ?_;have ag:=ag.later (J bD b4);refine aa (aB Z (ag.all hb gD))<| ?_;have aG:=aG.later b4;refine aa (aB Z (aG.all b2 bs))<|c0 pg Z (p_ f a _ _ _ (bL.keep cY)) λ qO eC=> ?_;have gU:=J cY eC;refine vm Z<|b0 Z Z<|b0 Z Z<|va Z<|aT Z<|aI<|aK Z<|gN Z Z<|aJ<|hP (gy Z dv)<|bE<|aF<| ?_;have ag:=ag.later eC;refine aa (aB Z (ag.all hb gD))<| ?_;have bJ:=bJ.later eC;refine aa (aB Z (bJ.all b2 bs))<|c0 pg Z (p_ f b _ _ _ (bL.keep gU)) λ y5 dT=> ?_;have lA:=J gU dT;refine vm Z<|b0 Z Z<|b0 Z Z<|va Z<|aT Z<|aI<|aK Z<|gN Z Z<|aJ<|gZ (gy Z ey)<|aK Z<|va Z<|bH Z<|cU<| ?_;refine ht Z Z Z<| ?_;exact ⟨Z,lA⟩
theorem axW (f:av) (a b:ai) (P:Option Addr) (cv:Nat) (w:World) (bL:bz.aQ 8 w P cv f.places) (N3:f.cH a=0) (abK:f.cH b=0) (he:f.place a=1∨f.place b=1):
  Calls prog 90 #[.agg #[γ f.wide,γ f.high, .slice P f.places.length cv], .agg #[γ a.x,γ a.y], .agg #[γ b.x,γ b.y]] w (λ e w'=>e= .returned (.tuple #[.pointer none,γ 9])∧Ext w w'):=by
 have dv:(f.cH a != 0)=false:=by simpa using N3
 have ey:(f.cH b != 0)=false:=by simpa using abK
 have jx:((f.mb a == 1) || (f.mb b == 1))=true:=by obtain ⟨hf,JU⟩:=Mt N3;obtain ⟨_,T_⟩:=Mt abK;rw [(av.la hf JU).2,(av.la hf T_).2];simpa using he
 refine cx (n:=61) func90 Z Z Z ?_;refine fa Z Z λ dk bx bm fQ ag=> ?_;refine jn Z Z λ fT dJ bD j' aG=> ?_;have b7:=J bm bD;refine jn Z Z λ hX iW b4 rD bJ=> ?_;have cY:=J b7 b4;refine va Z<|aT Z<|aF<| ?_;have ag:=ag.later (J bD b4);refine aa (aB Z (ag.all hb gD))<| ?_;have aG:=aG.later b4;refine aa (aB Z (aG.all b2 bs))<|c0 pg Z (p_ f a _ _ _ (bL.keep cY)) λ qO eC=> ?_;have gU:=J cY eC;refine vm Z<|b0 Z Z<|b0 Z Z<|va Z<|aT Z<|aI<|aK Z<|gN Z Z<|aJ<|hP (gy Z dv)<|bE<|aF<| ?_;have ag:=ag.later eC;refine aa (aB Z (ag.all hb gD))<| ?_;have bJ:=bJ.later eC;refine aa (aB Z (bJ.all b2 bs))<|c0 pg Z (p_ f b _ _ _ (bL.keep gU)) λ y5 dT=> ?_;have lA:=J gU dT;refine vm Z<|b0 Z Z<|b0 Z Z<|va Z<|aT Z<|aI<|aK Z<|gN Z Z<|aJ<|hP (gy Z ey)<|bE<|aI<|aK Z<|aa (beq Z Z)<|vm Z<|fS Z Z<| ?_;refine b9 Z (λ hc=>beq (gt hc Z) Z)<|aa (gv Z Z Z Z)<|aJ<|gZ (gy Z jx)<|aF<|va Z<|bH Z<|cU<|ht Z Z Z<| ?_;exact ⟨Z,lA⟩
theorem axY (f:av) (a b:ai) (P:Option Addr) (cv:Nat) (w:World) (bL:bz.aQ 8 w P cv f.places) (hf:f.a7=0) (ga:f.ground a=true) (tM:f.ground b=true) (kE:cE f a b b<0):
  Calls prog 90 #[.agg #[γ f.wide,γ f.high, .slice P f.places.length cv], .agg #[γ a.x,γ a.y], .agg #[γ b.x,γ b.y]] w (λ e w'=>(∃ far,mN f a b far)∧e= .returned (.tuple #[.pointer none,γ 6])∧Ext w w'):=by
 obtain ⟨g1,g2,g3,g4,g5,g6⟩:=av.hg hf;have abX:=av.kr hf;have Am:=av.jr ga;have lg:=av.jr tM;obtain ⟨_,_,di,a2,a3,a4⟩:=av.idx hf Am;obtain ⟨_,_,q7,fe,gJ,C_⟩:=av.idx hf lg;have Tx:=(av.la hf Am).1;have Ty:=(av.la hf lg).1;have T4:=(av.la hf Am).2;have T5:=(av.la hf lg).2;have TS:=av.BL ga;have TT:=av.BL tM;have B0:0<f.places.length:=by have:=(av.ya hf Am).1;omega
 have Uh:(f.cH a != 0)=false:=by rw [Tx];rfl
 have Ui:(f.cH b != 0)=false:=by rw [Ty];rfl
 have Ul:(f.mb a == 1)=false:=by rw [T4];simpa using TS
 have Um:(f.mb b == 1)=false:=by rw [T5];simpa using TT
 have Uj:decide (cE f a b b<0)=true:=aNp kE;refine cx (n:=61) func90 Z Z Z ?_;refine fa Z Z λ dk bx bm fQ ag=> ?_;have jd:=ag.lt;refine jn Z Z λ fT dJ bD j' aG=> ?_;have b7:=J bm bD;have qG:=aG.lt;refine jn Z Z λ hX iW b4 rD bJ=> ?_;have cY:=J b7 b4;have yV:=bJ.lt;refine va Z<|aT Z<|aF<| ?_;have ag:=ag.later (J bD b4);refine aa (aB Z (ag.all hb gD))<| ?_;have aG:=aG.later b4;refine aa (aB Z (aG.all b2 bs))<|c0 pg Z (p_ f a _ _ _ (bL.keep cY)) λ qO eC=> ?_;have:=eC.size;have gU:=J cY eC;refine vm Z<|b0 Z Z<|b0 Z Z<|va Z<|aT Z<|aI<|aK Z<|gN Z Z<|aJ<|hP (gy Z Uh)<|bE<|aF<| ?_;have ag:=ag.later eC;refine aa (aB Z (ag.all hb gD))<| ?_;have bJ:=bJ.later eC;refine aa (aB Z (bJ.all b2 bs))<|c0 pg Z (p_ f b _ _ _ (bL.keep gU)) λ y5 dT=> ?_;have:=dT.size;have lA:=J gU dT;refine vm Z<|b0 Z Z<|b0 Z Z<|va Z<|aT Z<|aI<|aK Z<|gN Z Z<|aJ<|hP (gy Z Ui)<|bE<|aI<|aK Z<|aa (beq Z Z)<|vm (gy Z Ul)<|il Z Z Z<| ?_;refine vm Z<|il Z Z Z<|aa (beq Z Z)<|aa (oV Z (gy Z Um))<|aJ<|hP Z<|bE<|aI<| ?_;refine dw [(0,0),(1,0),(2,2),(4,0),(6,2),(8,2)] [0,1,3,4,5,2,6,7,8,9] ?_;have ag:=ag.later dT;refine cS Z (λ _ x=>aB Z ((ag.later x).all hb gD))<| ?_;have bJ:=bJ.later dT;refine cS Z (λ _ x=>aB Z ((bJ.later x).all b2 bs))<|ax Z (λ _=>au tK Z)<|cP Z Z ag fI Z<|ax Z (λ _=>dr underlying46 Z)<|fW Z Z Z λ EC jD Q hK=>b_ (e:= 3) (cs:= [γ (-1)]) Z (λ _=>by kernel_rfl) Z λ K3 Yq eL aea xQ=>hK _ _ ⟨J jD eL, ?_⟩;have:=jD.size;have nv:=J lA jD;have s_:=J nv eL;have afP:=xQ.lt;refine fW Z Z Z λ Hh jF Q hK=>ca aaj Z Z ((af5 _ _ f.places.length (-1) _ (aO.fy (R:=bz) (by_:=8) (q:= -1) (xQ.later jF) ⟨Z,cI.2 (by decide)⟩ (by decide)) B0 (by omega)).mono ?_);rintro e ED ⟨tr,yd,rfl,lF,fD⟩;refine ⟨_,Z,hK _ _ ⟨J jF fD, ?_⟩⟩;have:=jF.size;have EX:=J s_ jF;have:=fD.size;have o7:=J EX fD;have xm:=bZ lF.lt;have wH:=dL lF.lt;have lF:=lF.down (show w.heap.size≤Hh.heap.size by omega);refine kn (v:= .agg #[γ f.wide,γ f.high, .slice P f.places.length cv,γ b.x,γ b.y, .slice tr ((List.replicate f.places.length (-1)).length) yd, .slice none 0 0]) Z Z (λ _=>gR Z (by kernel_rfl)) Z<|fW Z Z Z λ xu dm Q hK=>jn Z Z λ K4 zJ hJ aed tq=>hK _ _ ⟨J dm hJ, ?_⟩;have:=dm.size;have k5:=J o7 dm;have xH:=J k5 hJ;have U1:=tq.lt;refine ax Z (λ _=>eV Z)<|fn λ uF fq=> ?_;have:=fq.size;have jX:=J xH fq;refine br<|aK Z<| ?_;have aG:=aG.later (J eC (J dT (J jD (J eL (J jF (J fD (J dm (J hJ fq))))))));refine aa (aB Z (aG.all b2 bs))<| ?_;have tq:=tq.later fq;have lF:=lF.later (J dm (J hJ fq));have QC:b5.rep.aM 225 32 uF w.heap.size (Φ.ab none) none 0 ([]:List b5):=Φ.aM.nil _;refine ca R1 Z Z ((UX w f P tr none cv yd 0 zJ ((List.replicate f.places.length (-1))) ([]:List b5) b a 0 _ jX hf bL tq (by omega) QC (λ q I=>by simp [Φ.ab] at I) (λ y aH=>by simp at aH) (by simp) (by omega) (by omega) (by omega)).mono ?_);rintro e EG ⟨cc,bd,rfl,iJ,nD,Tv,BS,Ef⟩;refine cF ?_;have pR:=Ext.mod jX Ef (λ q I=>(aNg.1 I).elim (λ h=>by omega) (λ h=>by simp [Φ.ab] at h));have rE:∀ q∈Φ.ab cc,uF.heap.size≤q:=λ q I=>(BS q I).elim (λ h=>by simp [Φ.ab] at h) id;refine aJ<|aK Z<| ?_;have lF:=lF.mod Ef (λ q I h=>(aNg.1 h).elim (λ h=>by exfalso;(have:=xm q I;omega)) (λ h=>by simp [Φ.ab] at h));refine ca aak Z Z ((afH w f P tr cc cv yd bd zJ ((List.replicate f.places.length (-1))) (cm.push b5.all ([]:List b5) ⟨a,0,0+av.iZ b a⟩) b a a _ pR hf bL iJ (by omega) lF nD (λ q I af=>by exfalso;(have:=xm q I;omega)) Tv (λ q κ τ=>by exfalso;(have:=rE q κ;(have:=xm q τ;omega))) (q3.start hf ga a) vI.start lg (by rw [cm.KC,VS];simp;omega)).mono ?_);rintro e V8 ⟨far,cz,bM,iO,rfl,gI,hz,ic,lR⟩;refine cF ?_;have u_:=Ext.mod pR lR (λ q I=>(aNg.1 I).elim (λ h=>by omega) (λ h=>(aNi.1 h).elim (λ h=>(lF.lt q h).1) (λ h=>(nD.lt q h).1)));have rv:=i' hf ic.len lg;refine aJ<|aI<|aI<| ?_;refine dw [(3,0),(5,0),(6,0),(8,0)] [0,1,2,3,4,5,6,7,8,9] ?_;refine bn Z Z<|ax Z (λ _=>b3 Z)<|ax Z (λ _=>au nL Z)<|cP Z Z gI fI Z<|bn Z Z<| ?_;have bJ:=((bJ.later (J jD (J eL (J jF (J fD (J dm (J hJ fq))))))).mod Ef (λ I=>(aNg.1 I).elim (λ h=>by omega) (λ h=>by simp [Φ.ab] at h))).mod lR (λ I=>(aNg.1 I).elim (λ h=>by omega) (λ h=>(aNi.1 h).elim (λ h=>(show ∀ q,q∈Φ.ab tr→q=iW→False from λ q h af=>by (have:=wH q h;omega)) _ h rfl) (λ h=>(show ∀ q,q∈Φ.ab cc→q=iW→False from λ q h af=>by (have:=rE q h;omega)) _ h rfl)));refine cS Z (λ _ x=>aB Z ((bJ.later x).all b2 bs))<|rk Z Z lM Z (λ _ x=>qF w f P tr cz cv yd bM zJ far iO b b _ (J u_ x) hf bL (gI.later x) (by first | omega | (dsimp only;omega))) Z<|ax Z (λ _=>bX ((b.y * f.wide+b.x).toNat) underlying46 cr Z Z (hz.has.bw (aZ ((b.y * f.wide+b.x).toNat) (by have rq:=rv.1;omega))) (by omega) (by have rq:=rv.1;omega))<|cS Z (λ _ x=>aB Z (Φ.aQ.dj dA ((hz.later x).has.cg (aZ ((b.y * f.wide+b.x).toNat) (by have rq:=rv.1;omega))) (ic.get hf lg) Z a6))<|ax Z (λ _=>blt Z Z)<|fn λ K7 hY=> ?_;have xI:=J u_ hY;refine br<|gZ (gy Z Uj)<|aF<|va Z<|bH Z<|cU<|ht Z Z Z<| ?_;have gI:=gI.later hY;have hz:=hz.later hY;exact ⟨⟨far,ic⟩,Z,xI⟩
theorem axZ (f:av) (a b:ai) (P:Option Addr) (cv:Nat) (w:World) (bL:bz.aQ 8 w P cv f.places) (hf:f.a7=0) (ga:f.ground a=true) (tM:f.ground b=true) (kE:0≤cE f a b b):
  Calls prog 90 #[.agg #[γ f.wide,γ f.high, .slice P f.places.length cv], .agg #[γ a.x,γ a.y], .agg #[γ b.x,γ b.y]] w (λ e w'=>∃ p F A ff c far l,e= .returned (.tuple #[.pointer (a_ p),γ 0])∧mN f a b far∧aO w' p [γ f.wide,γ f.high, .slice P f.places.length cv,γ b.x,γ b.y, .slice F far.length ff, .slice A ((l:List b5).length) c] 163 (0,0)∧w.heap.size≤p∧bz.aM 3 8 w' w.heap.size (Φ.ab F) F ff far∧(∀ q∈Φ.ab F,q=p→False)∧Ext w w'):=by
 obtain ⟨g1,g2,g3,g4,g5,g6⟩:=av.hg hf;have abX:=av.kr hf;have Am:=av.jr ga;have lg:=av.jr tM;obtain ⟨_,_,di,a2,a3,a4⟩:=av.idx hf Am;obtain ⟨_,_,q7,fe,gJ,C_⟩:=av.idx hf lg;have Tx:=(av.la hf Am).1;have Ty:=(av.la hf lg).1;have T4:=(av.la hf Am).2;have T5:=(av.la hf lg).2;have TS:=av.BL ga;have TT:=av.BL tM;have B0:0<f.places.length:=by have:=(av.ya hf Am).1;omega
 have Uh:(f.cH a != 0)=false:=by rw [Tx];rfl
 have Ui:(f.cH b != 0)=false:=by rw [Ty];rfl
 have Ul:(f.mb a == 1)=false:=by rw [T4];simpa using TS
 have Um:(f.mb b == 1)=false:=by rw [T5];simpa using TT
 have Uj:decide (cE f a b b<0)=false:=aNu (by omega);refine cx (n:=61) func90 Z Z Z ?_;refine fa Z Z λ dk bx bm fQ ag=> ?_;have jd:=ag.lt;refine jn Z Z λ fT dJ bD j' aG=> ?_;have b7:=J bm bD;have qG:=aG.lt;refine jn Z Z λ hX iW b4 rD bJ=> ?_;have cY:=J b7 b4;have yV:=bJ.lt;refine va Z<|aT Z<|aF<| ?_;have ag:=ag.later (J bD b4);refine aa (aB Z (ag.all hb gD))<| ?_;have aG:=aG.later b4;refine aa (aB Z (aG.all b2 bs))<|c0 pg Z (p_ f a _ _ _ (bL.keep cY)) λ qO eC=> ?_;have:=eC.size;have gU:=J cY eC;refine vm Z<|b0 Z Z<|b0 Z Z<|va Z<|aT Z<|aI<|aK Z<|gN Z Z<|aJ<|hP (gy Z Uh)<|bE<|aF<| ?_;have ag:=ag.later eC;refine aa (aB Z (ag.all hb gD))<| ?_;have bJ:=bJ.later eC;refine aa (aB Z (bJ.all b2 bs))<|c0 pg Z (p_ f b _ _ _ (bL.keep gU)) λ y5 dT=> ?_;have:=dT.size;have lA:=J gU dT;refine vm Z<|b0 Z Z<|b0 Z Z<|va Z<|aT Z<|aI<|aK Z<|gN Z Z<|aJ<|hP (gy Z Ui)<|bE<|aI<|aK Z<|aa (beq Z Z)<|vm (gy Z Ul)<|il Z Z Z<| ?_;refine vm Z<|il Z Z Z<|aa (beq Z Z)<|aa (oV Z (gy Z Um))<|aJ<|hP Z<|bE<|aI<| ?_;refine dw [(0,0),(1,0),(2,2),(4,0),(6,2),(8,2)] [0,1,3,4,5,2,6,7,8,9] ?_;have ag:=ag.later dT;refine cS Z (λ _ x=>aB Z ((ag.later x).all hb gD))<| ?_;have bJ:=bJ.later dT;refine cS Z (λ _ x=>aB Z ((bJ.later x).all b2 bs))<|ax Z (λ _=>au tK Z)<|cP Z Z ag fI Z<|ax Z (λ _=>dr underlying46 Z)<|fW Z Z Z λ EC jD Q hK=>b_ (e:= 3) (cs:= [γ (-1)]) Z (λ _=>by kernel_rfl) Z λ K3 Yq eL aea xQ=>hK _ _ ⟨J jD eL, ?_⟩;have:=jD.size;have nv:=J lA jD;have s_:=J nv eL;have afP:=xQ.lt;refine fW Z Z Z λ Hh jF Q hK=>ca aaj Z Z ((af5 _ _ f.places.length (-1) _ (aO.fy (R:=bz) (by_:=8) (q:= -1) (xQ.later jF) ⟨Z,cI.2 (by decide)⟩ (by decide)) B0 (by omega)).mono ?_);rintro e ED ⟨tr,yd,rfl,lF,fD⟩;refine ⟨_,Z,hK _ _ ⟨J jF fD, ?_⟩⟩;have:=jF.size;have EX:=J s_ jF;have:=fD.size;have o7:=J EX fD;have xm:=bZ lF.lt;have wH:=dL lF.lt;have lF:=lF.down (show w.heap.size≤Hh.heap.size by omega);refine kn (v:= .agg #[γ f.wide,γ f.high, .slice P f.places.length cv,γ b.x,γ b.y, .slice tr ((List.replicate f.places.length (-1)).length) yd, .slice none 0 0]) Z Z (λ _=>gR Z (by kernel_rfl)) Z<|fW Z Z Z λ xu dm Q hK=>jn Z Z λ K4 zJ hJ aed tq=>hK _ _ ⟨J dm hJ, ?_⟩;have:=dm.size;have k5:=J o7 dm;have xH:=J k5 hJ;have U1:=tq.lt;refine ax Z (λ _=>eV Z)<|fn λ uF fq=> ?_;have:=fq.size;have jX:=J xH fq;refine br<|aK Z<| ?_;have aG:=aG.later (J eC (J dT (J jD (J eL (J jF (J fD (J dm (J hJ fq))))))));refine aa (aB Z (aG.all b2 bs))<| ?_;have tq:=tq.later fq;have lF:=lF.later (J dm (J hJ fq));have QC:b5.rep.aM 225 32 uF w.heap.size (Φ.ab none) none 0 ([]:List b5):=Φ.aM.nil _;refine ca R1 Z Z ((UX w f P tr none cv yd 0 zJ ((List.replicate f.places.length (-1))) ([]:List b5) b a 0 _ jX hf bL tq (by omega) QC (λ q I=>by simp [Φ.ab] at I) (λ y aH=>by simp at aH) (by simp) (by omega) (by omega) (by omega)).mono ?_);rintro e EG ⟨cc,bd,rfl,iJ,nD,Tv,BS,Ef⟩;refine cF ?_;have pR:=Ext.mod jX Ef (λ q I=>(aNg.1 I).elim (λ h=>by omega) (λ h=>by simp [Φ.ab] at h));have rE:∀ q∈Φ.ab cc,uF.heap.size≤q:=λ q I=>(BS q I).elim (λ h=>by simp [Φ.ab] at h) id;refine aJ<|aK Z<| ?_;have lF:=lF.mod Ef (λ q I h=>(aNg.1 h).elim (λ h=>by exfalso;(have:=xm q I;omega)) (λ h=>by simp [Φ.ab] at h));refine ca aak Z Z ((afH w f P tr cc cv yd bd zJ ((List.replicate f.places.length (-1))) (cm.push b5.all ([]:List b5) ⟨a,0,0+av.iZ b a⟩) b a a _ pR hf bL iJ (by omega) lF nD (λ q I af=>by exfalso;(have:=xm q I;omega)) Tv (λ q κ τ=>by exfalso;(have:=rE q κ;(have:=xm q τ;omega))) (q3.start hf ga a) vI.start lg (by rw [cm.KC,VS];simp;omega)).mono ?_);rintro e V8 ⟨far,cz,bM,iO,rfl,gI,hz,ic,lR⟩;refine cF ?_;have u_:=Ext.mod pR lR (λ q I=>(aNg.1 I).elim (λ h=>by omega) (λ h=>(aNi.1 h).elim (λ h=>(lF.lt q h).1) (λ h=>(nD.lt q h).1)));have rv:=i' hf ic.len lg;refine aJ<|aI<|aI<| ?_;refine dw [(3,0),(5,0),(6,0),(8,0)] [0,1,2,3,4,5,6,7,8,9] ?_;refine bn Z Z<|ax Z (λ _=>b3 Z)<|ax Z (λ _=>au nL Z)<|cP Z Z gI fI Z<|bn Z Z<| ?_;have bJ:=((bJ.later (J jD (J eL (J jF (J fD (J dm (J hJ fq))))))).mod Ef (λ I=>(aNg.1 I).elim (λ h=>by omega) (λ h=>by simp [Φ.ab] at h))).mod lR (λ I=>(aNg.1 I).elim (λ h=>by omega) (λ h=>(aNi.1 h).elim (λ h=>(show ∀ q,q∈Φ.ab tr→q=iW→False from λ q h af=>by (have:=wH q h;omega)) _ h rfl) (λ h=>(show ∀ q,q∈Φ.ab cc→q=iW→False from λ q h af=>by (have:=rE q h;omega)) _ h rfl)));refine cS Z (λ _ x=>aB Z ((bJ.later x).all b2 bs))<|rk Z Z lM Z (λ _ x=>qF w f P tr cz cv yd bM zJ far iO b b _ (J u_ x) hf bL (gI.later x) (by first | omega | (dsimp only;omega))) Z<|ax Z (λ _=>bX ((b.y * f.wide+b.x).toNat) underlying46 cr Z Z (hz.has.bw (aZ ((b.y * f.wide+b.x).toNat) (by have rq:=rv.1;omega))) (by omega) (by have rq:=rv.1;omega))<|cS Z (λ _ x=>aB Z (Φ.aQ.dj dA ((hz.later x).has.cg (aZ ((b.y * f.wide+b.x).toNat) (by have rq:=rv.1;omega))) (ic.get hf lg) Z a6))<|ax Z (λ _=>blt Z Z)<|fn λ K7 hY=> ?_;have xI:=J u_ hY;refine br<|hP (gy Z Uj)<|bE<|aK Z<|va Z<|bH Z<|ht Z Z Z<| ?_;have gI:=gI.later hY;have hz:=hz.later hY;exact ⟨zJ,tr,cz,yd,bM,far,iO,Z,ic,gI,by omega,hz,(λ q I af=>by exfalso;(have:=xm q I;omega)),xI⟩
theorem axX (f:av) (a b:ai) (P:Option Addr) (cv:Nat) (w:World) (bL:bz.aQ 8 w P cv f.places) (h:eI f a b≠0):
  Calls prog 90 #[.agg #[γ f.wide,γ f.high, .slice P f.places.length cv], .agg #[γ a.x,γ a.y], .agg #[γ b.x,γ b.y]] w (λ e w'=>e= .returned (.tuple #[.pointer none,γ (eI f a b)])∧Ext w w'):=by
 rcases Sd f a b with ⟨κ,τ⟩ | ⟨κ,τ,aq⟩ | ⟨κ,τ,aq,bb⟩ | ⟨κ,τ,aq,bb | bb⟩
 ·rw [τ];exact axU f a b P cv w bL κ
 ·rw [aq];exact axV f a b P cv w bL κ τ
 ·rw [bb];exact axW f a b P cv w bL κ τ aq
 ·rw [bb.2];exact (axY f a b P cv w bL κ τ aq bb.1).mono λ e w' h=>⟨h.2.1,h.2.2⟩
 ·exact absurd bb.2 h
section
namespace vG
section
variable {α:Type} [Inhabited α] {l:List α} {k i:Nat}
def jB (l:List α):Nat→List α
 | 0=>l
 | k+1=>cm.swp (jB l k) k (l.length - 1 - k)
theorem Et:(jB l k).length=l.length:=by
 induction k with
 | zero=>rfl
 | succ k bu=>rw [jB,cm.lv,bu]
theorem ayX:∀ k,2 * k≤l.length+1→(jB l k).Perm l:=by
 intro k;induction k with
 | zero=>intro _;exact aQX _
 | succ k bu =>
  intro aj;rw [jB];exact (cm.Cp (by rw [Et];omega) (by rw [Et];omega)).trans (bu (by omega))
theorem ayW:∀ k,2 * k≤l.length→∀ i,i<l.length→(jB l k).getD i default=if i<k∨l.length - 1 - i<k then l.getD (l.length - 1 - i) default else l.getD i default:=by
 intro k;induction k with
 | zero=>intro _ i _;rw [aM4 (by omega)];rfl
 | succ k bu =>
  intro aj i ak;have ay:=Et (l:=l) (k:=k);rw [jB,cm.Co (by omega) (by omega)];by_cases aR:i=l.length - 1 - k
  ·rw [aNd aR,bu (by omega) k (by omega),aM4 (by omega),aNd (by omega)];congr 1;omega
  ·rw [aM4 aR];by_cases a1:i=k
   ·rw [aNd a1,bu (by omega) _ (by omega),aM4 (by omega),aNd (by omega)];congr 1;omega
   ·rw [aM4 a1,bu (by omega) i ak];by_cases cL:i<k∨l.length - 1 - i<k
    ·rw [aNd cL,aNd (by omega)]
    ·rw [aM4 cL,aM4 (by omega)]
theorem ayV (h:(l.length:Int) - 1≤2 * (k:Int)) (τ:2 * k≤l.length):jB l k=l.reverse:=by
 refine List.ext_getElem (by rw [Et,aON]) λ i κ aF3=> ?_;rw [Et] at κ;have aU:=ayW k τ i κ;rw [aRo];have e:(jB l k).getD i default=(jB l k)[i]'(by rw [Et];exact κ):=by rw [aM0,aM3];rfl
 rw [← e,aU];split
 ·rw [aM0,aM3 (by omega)];rfl
 ·rw [aM0,aM3 κ];have:l.length - 1 - i=i:=by omega
  simp only [aN2,this]
end
end vG
end
theorem ayP (A:Option Addr) (c aA:Nat) (l:List ai) (w:World) (bc:ai.rep.aM 98 16 w aA (Φ.ab A) A c (l)) (dp:∀ y∈l,y.ok):
  Calls prog 94 #[.slice A l.length c] w (λ e w'=>e= .returned (.tuple #[])∧ai.rep.aM 98 16 w' aA (Φ.ab A) A c (l.reverse)∧Mod (Φ.ab A) w w'):=by
 have aGy:=bc.has.kr;refine cx (n:=28) func94 Z Z Z ?_;refine aK Z<|aa (dr underlying49 Z)<|aa (iM Z Z fP)<|va Z<|aT Z<|bT<| ?_;refine gi (λ cJ cu aV=>∃ k:Nat,∃ jm:Int,cu= [(0, .slice A l.length c),(2,γ (k:Int)),(3,γ jm)]∧cJ=(l.length - k)∧Mod (Φ.ab A) w aV∧ai.rep.aM 98 16 aV aA (Φ.ab A) A c (vG.jB l k)∧(jm=(l.length:Int) - 1 - (k:Int))∧(2 * k≤l.length)) _ _ ⟨0,((l.length:Int) - 1),Z,Z,(Mod.bN (Φ.ab A) w),bc,by omega,by omega⟩ (.cons Z (.cons (rE Z) (eS Z Z Z))) ?_;rintro wQ HL dk ⟨k,jm,rfl,rfl,dM,o_,yv,aj⟩;have aGI:(vG.jB l k).length=l.length:=vG.Et;have acb:∀ y∈vG.jB l k,y.ok:=λ y aH=>dp y ((vG.ayX k (by omega)).subset aH);refine aI<|aK Z<|vm Z<|fB Z Z<|aJ<| ?_;refine fH Z (λ oB=> ?_) (λ oB=> ?_)
 ·refine bE<|aI<|bT<| ?_;refine dw [(7,0),(11,0),(13,3),(15,3)] [0,1,2,3,4,5,6,7,8,9,10,11,12,13,14,15] ?_;refine bn Z Z<|bn Z Z<|bn Z Z<|bn Z Z<|bn Z Z<|bn Z Z<|ax Z (λ _=>bX jm.toNat underlying49 bs Z Z (o_.has.bw (aZ jm.toNat (by first | omega | (rw [aNj];omega)))) (by omega) (by first | omega | (rw [aNj];omega)))<|cS Z (λ _ x=>aB Z (Φ.aQ.jJ wh ((o_.later x).has.cg (aZ jm.toNat (by first | omega | (rw [aNj];omega)))) (cj (l:=vG.jB l k) (u:=default) (by first | omega | (rw [aNj];omega))) b2 bs))<|bn Z Z<|bn Z Z<|ax Z (λ _=>bX k underlying49 bs Z Z (o_.has.bw (aZ k (by first | omega | (rw [aNj];omega)))) Z (by first | omega | (rw [aNj];omega)))<|cS Z (λ _ x=>aB Z (Φ.aQ.jJ wh ((o_.later x).has.cg (aZ k (by first | omega | (rw [aNj];omega)))) (cj (l:=vG.jB l k) (u:=default) (by first | omega | (rw [aNj];omega))) b2 bs))<|ax Z (λ _=>bX k underlying49 bs Z Z (o_.has.bw (aZ k (by first | omega | (rw [aNj];omega)))) Z (by first | omega | (rw [aNj];omega)))<|dC Z Z Z λ EH l2 Q hK=>Pf (q':=(vG.jB l k).getD jm.toNat default) (i:=k) (o_.later l2) Φ.c6 (by first | omega | (rw [aNj];omega)) Z Z Z Z (λ _=>⟨Z,(acb _ (mr (by omega)))⟩) bs λ uG aeN X3=>hK _ _ ?_;have mL:=dM.trans (Mod.aP l2);have jh:=mL.md aeN (λ q I=> .inl I);refine ax Z (λ _=>bX jm.toNat underlying49 bs Z Z (X3.has.bw (aZ jm.toNat (by first | omega | (rw [aNj];omega)))) (by omega) (by first | omega | (rw [aNj];omega)))<|dC Z Z Z λ hX gp Q hK=>Pf (q':=(vG.jB l k).getD k default) (i:=jm.toNat) (X3.later gp) Φ.c6 (by first | omega | (rw [aNj];omega)) Z Z Z Z (λ _=>⟨Z,(acb _ (mr (by omega)))⟩) bs λ y4 GM QX=>hK _ _ ?_;have cY:=jh.trans (Mod.aP gp);have iz:=cY.md GM (λ q I=> .inl I);refine fn λ Hf iH=> ?_;have nu:=iz.trans (Mod.aP iH);refine cl<|br<|rg<|vm Z<|fl Z Z<|vm Z<|aa (iM Z Z fP)<|va Z<|va Z<|nl<| ?_;have QX:=QX.later iH;exact lT _ _ ⟨k+1,(jm - 1),Z,Z,nu,(by have h:=QX;rw [show jm.toNat=l.length - 1 - k by omega] at h;exact h),by omega,by omega⟩ (by omega) (.cons Z (.cons (rE Z) (eS Z Z Z)))
 ·refine ej<|ei<|eU<|eh<|ne<|dS .nil<| ?_;exact ⟨Z,by have h:=o_;rw [vG.ayV (by omega) (by omega)] at h;exact h,dM⟩
section
theorem akY:Qq prog ai.cells 98 :=by
 intro a b w;obtain ⟨a0,di⟩:=a;obtain ⟨yb,q7⟩:=b;simp only [ai.cells,ai.mk.injEq];constructor
 ·go_simp
  repeat' split
  all_goals simp_all
 ·go_simp
  repeat' split
  all_goals simp_all
theorem akX:(prog).eqGuardType (prog).depth 98 =false:=by kernel_rfl
theorem akW:dN prog ai.rep 49 98 16:=dN.jz (z:=ai.zero) (k:=2) underlying49 ai.info rfl rfl (by decide) ai.k6
section
variable {f:av} {a b c b':ai} {ao:ai→Int} {out L:List ai} {j:Nat}
theorem alf (p q r:Bool):p=false∨(p=true∧q=false)∨(p=true∧q=true∧r=false)∨(p=true∧q=true∧r=true):=by cases p<;>cases q<;>cases r<;>simp
theorem axQ (h:∀ i,i<4→(f.ground ((dH c).getD i default) && decide (0≤ao ((dH c).getD i default)) && decide (ao ((dH c).getD i default)+f.fk c=ao c))=false):kK f ao c=c:=by
 have e:(dH c).find? (λ n=>f.ground n && decide (0≤ao n) && decide (ao n+f.fk c=ao c))=none:=by
  rw [aOl];intro x hx;obtain ⟨i,ak,rfl⟩:=aNZ.1 hx;have:=h i ak;rw [oz ak] at this;rw [this];decide
 unfold kK;rw [e];rfl
theorem axP (aw:j<4) (h:∀ i,i<j→(f.ground ((dH c).getD i default) && decide (0≤ao ((dH c).getD i default)) && decide (ao ((dH c).getD i default)+f.fk c=ao c))=false) (hp:(f.ground ((dH c).getD j default) && decide (0≤ao ((dH c).getD j default)) && decide (ao ((dH c).getD j default)+f.fk c=ao c))=true):kK f ao c=(dH c).getD j default:=by
 have e:(dH c).find? (λ n=>f.ground n && decide (0≤ao n) && decide (ao n+f.fk c=ao c))=some ((dH c).getD j default):=by
  have ay:(dH c).length=4:=rfl;rw [aPn];refine ⟨hp,j,by omega,(oz (by omega)).symm,λ i ak=> ?_⟩;have:=h i ak;rw [oz (by omega)] at this;simp only [this];rfl
 unfold kK;rw [e];rfl
theorem ahF (f:av) (ao:ai→Int) (a:ai) (n:Nat) (c:ai): [c]++(vO f ao a n c).tail=vO f ao a n c:=by
 cases n with
 | zero=>rfl
 | succ n=>unfold vO;split<;>rfl
theorem aBi (h:out++(fb f ao a c).tail=L) (τ:fb f ao a c=c::fb f ao a b'):(out++ [b'])++(fb f ao a b').tail=L:=by
 rw [τ,List.tail_cons] at h;rw [aNB,show [b']++(fb f ao a b').tail=fb f ao a b' from ahF _ _ _ _ _];exact h
theorem ahG (h:nC f a ao):∀ {c:ai},0≤ao c→((fb f ao a c).length:Int)≤ao c+1:=by
 have key:∀ n:Nat,∀ c,0≤ao c→(ao c).toNat=n→((fb f ao a c).length:Int)≤ao c+1:=by
  intro n;induction n using Nat.strongRecOn with
  | ind n bu =>
   intro c hc hn;by_cases dF:c=a
   ·subst dF;rw [AS h,h.zero];simp
   ·obtain ⟨nX,nc,mz,yU⟩:=h.prev hc dF;have aj:=f.mY (c:=c);have:=bu (ao (kK f ao c)).toNat (by omega) _ mz rfl;rw [AT h hc dF,aM1];omega
 exact fun {c} hc=>key _ c hc Z
end
theorem axF (f:av) (a b:ai) (P:Option Addr) (cv:Nat) (w:World) (bL:bz.aQ 8 w P cv f.places) (he:eI f a b≠0):
  Calls prog 72 #[.agg #[γ f.wide,γ f.high, .slice P f.places.length cv], .agg #[γ a.x,γ a.y], .agg #[γ b.x,γ b.y]] w (λ e w'=>e= .returned (.tuple #[.slice none 0 0,γ 0,γ (eI f a b)])∧Ext w w'):=by
 have at2:(eI f a b != 0)=true:=by simpa using he
 refine cx (n:=107) func72 Z Z Z ?_;refine fa Z Z λ dk bx bm fQ ag=> ?_;refine jn Z Z λ fT dJ bD j' aG=> ?_;have b7:=J bm bD;refine jn Z Z λ hX iW b4 rD bJ=> ?_;have cY:=J b7 b4;refine va Z<|va Z<|aT Z<|aF<| ?_;have ag:=ag.later (J bD b4);refine aa (aB Z (ag.all hb gD))<| ?_;have aG:=aG.later b4;refine aa (aB Z (aG.all b2 bs))<|aa (aB Z (bJ.all b2 bs))<|c0 aal Z (axX f a b P cv _ (bL.keep cY) he) λ qO eC=> ?_;have gU:=J cY eC;refine vm Z<|b0 Z Z<|b0 Z Z<|va Z<|aT Z<|aI<|aK Z<|gN Z Z<|aJ<|gZ (gy Z at2)<|aK Z<|va Z<|va Z<|bH Z<| ?_;refine cU<|dS (.tmp Z (.tmp Z (.tmp Z .nil)))<| ?_;exact ⟨Z,gU⟩
theorem axG (f:av) (a b:ai) (P:Option Addr) (cv:Nat) (w:World) (bL:bz.aQ 8 w P cv f.places) (hf:f.a7=0) (ga:f.ground a=true) (tM:f.ground b=true) (kE:0≤cE f a b b):
  Calls prog 72 #[.agg #[γ f.wide,γ f.high, .slice P f.places.length cv], .agg #[γ a.x,γ a.y], .agg #[γ b.x,γ b.y]] w (λ e w'=>∃ A c,e= .returned (.tuple #[.slice A (fb f (cE f a b) a b).reverse.length c,γ (cE f a b b),γ 0])∧ai.rep.aM 98 16 w' w.heap.size (Φ.ab A) A c (fb f (cE f a b) a b).reverse∧Ext w w'):=by
 obtain ⟨g1,g2,g3,g4,g5,g6⟩:=av.hg hf;have abX:=av.kr hf;have lg:=av.jr tM;obtain ⟨_,_,q7,fe,gJ,C_⟩:=av.idx hf lg;refine cx (n:=107) func72 Z Z Z ?_;refine fa Z Z λ dk bx bm fQ ag=> ?_;have jd:=ag.lt;refine jn Z Z λ fT dJ bD j' aG=> ?_;have b7:=J bm bD;have qG:=aG.lt;refine jn Z Z λ hX iW b4 rD bJ=> ?_;have cY:=J b7 b4;have yV:=bJ.lt;refine va Z<|va Z<|aT Z<|aF<| ?_;have ag:=ag.later (J bD b4);refine aa (aB Z (ag.all hb gD))<| ?_;have aG:=aG.later b4;refine aa (aB Z (aG.all b2 bs))<|aa (aB Z (bJ.all b2 bs))<|ca aal Z Z ((axZ f a b P cv _ (bL.keep cY) hf ga tM kE).mono ?_);rintro e qO ⟨p,F,A,ff,c,far,l,rfl,ic,aE,aG4,cw,abG,eC⟩;refine cF ?_;have gU:=J cY eC;have O7:=aE.lt;have AL:=bZ cw.lt;obtain ⟨aE6,aE7,aE8⟩:=i' hf ic.len lg;have DD:=λ c=>ic.Yv c;have F6:=nC.afj ic kE;refine vm Z<|b0 Z Z<|b0 Z Z<|va Z<|aT Z<|aI<|aK Z<|gN Z Z<|aJ<|hP Z<|bE<|aF<| ?_;have bJ:=bJ.later eC;refine aa (aB Z (bJ.all b2 bs))<|b_ (e:= 98) (cs:= [γ b.x,γ b.y]) Z (λ _=>by kernel_rfl) Z λ y5 Mw jf aum xO=> ?_;have lA:=J gU jf;have afO:=xO.lt;refine aT Z<|aI<|aF<| ?_;have bJ:=bJ.later jf;refine aa (aB Z (bJ.all b2 bs))<|dn sC Z λ AR nJ lZ aeb zj=> ?_;have mK:=J lA lZ;refine c9 Z Z zj Z bs Z Z λ s4 lr zj=> ?_;have k4:=Ext.mod mK lr bF;refine aJ<|bT<| ?_;have xO:=(xO.later lZ).mod lr aY;have aka:=aO.Ky (R:=ai.rep) (by_:=16) (B:=w.heap.size) (k:= [b]) xO [b.cells] rfl ⟨⟨rfl,cI.2 (by omega),cI.2 (by omega)⟩,trivial⟩ (by simp) (by simp) (by decide) (by omega);have IX:∀ q∈Φ.ab (a_ Mw),q=Mw:=λ q I=>aMZ.1 I;have aG:=(aG.later (J eC (J jf lZ))).mod lr aY;have bJ:=(bJ.later lZ).mod lr aY;have aE:=(aE.later (J jf lZ)).mod lr aY;have cw:=(cw.later (J jf lZ)).mod lr (bl AL);refine gi (λ cJ cu aV=>∃ bd:ai,∃ ra:Nat,∃ out:List ai,∃ pS:Option Addr,∃ Bq:Nat,cu= [(4, .pointer (a_ dJ)),(5, .pointer (a_ iW)),(6, .slice none 0 0),(7,γ 0),(8,γ 0),(9, .pointer (a_ p)),(11, .slice pS out.length Bq),(12, .pointer (a_ ra))]∧cJ=(cE f a b bd).toNat∧Ext w aV∧aO aV dJ [γ a.x,γ a.y] 98 (0,0)∧aO aV iW [γ b.x,γ b.y] 98 (0,0)∧aO aV p [γ f.wide,γ f.high, .slice P f.places.length cv,γ b.x,γ b.y, .slice F far.length ff, .slice A ((l:List b5).length) c] 163 (0,0)∧bz.aM 3 8 aV hX.heap.size (Φ.ab F) F ff far∧aO aV ra [γ bd.x,γ bd.y] 98 (0,0)∧ai.rep.aM 98 16 aV w.heap.size (Φ.ab pS) pS Bq out∧(bx<ra)∧(dJ<ra)∧(iW<ra)∧(p<ra)∧(∀ q∈Φ.ab F,q<ra)∧(0≤cE f a b bd)∧(out++(fb f (cE f a b) a bd).tail=fb f (cE f a b) a b)∧(w.heap.size≤ra)∧(∀ q∈Φ.ab pS,q=dJ→False)∧(∀ q∈Φ.ab pS,q=iW→False)∧(∀ q∈Φ.ab pS,q=p→False)∧(∀ q∈Φ.ab pS,q=ra→False)∧(∀ q∈Φ.ab pS,q∈Φ.ab F→False)) _ _ ⟨b,nJ, [b],some ⟨Mw,0,none⟩,1,Z,Z,k4,aG,bJ,aE,cw,zj,aka,(by omega),(by omega),(by omega),(by omega),(λ q I=>by have:=AL q I;omega),kE,(by unfold fb;exact ahF _ _ _ _ _),(by omega),(λ q I af=>by (have:=IX q I;omega)),(λ q I af=>by (have:=IX q I;omega)),(λ q I af=>by (have:=IX q I;omega)),(λ q I af=>by (have:=IX q I;omega)),(λ q I af=>by (have:=IX q I;(have:=AL q af;omega)))⟩ (ih Z) ?_;rintro rI aDO PF ⟨bd,ra,out,pS,Bq,rfl,rfl,th,aG,bJ,aE,cw,fF,k_,aHq,aHr,aHp,aHs,abv,Gf,jb,kX,vQ,yi,yj,FD,Bx⟩;have aLr:=bZ cw.lt;have VK:=bZ k_.lt;have arp:∀ q∈Φ.ab F,q=ra→False:=λ q I af=>by have:=abv q I;omega
 have DJ:=av.jr (F6.gr bd Gf);have arW:=F6.gr bd Gf;obtain ⟨_,_,aFe,aFf,aFg,aFh⟩:=av.idx hf DJ;have asf:=f.mY (c:=bd);have nN:=aft hf arW;have aGh:=DD bd;have ab0:out.length≤4801:=by have κ:=aOP List.length jb;rw [aM6] at κ;have τ:=ahG F6 kE;have aq:=DD b;omega
 refine aI<|aF<|aa (aB Z (fF.all b2 bs))<|aa (aB Z (aG.all b2 bs))<|aa (YI akY akX (p:=bd) (q:=a) Z Z)<|aJ<| ?_;refine c1 Z (λ Tc=> ?_) (λ Tc=> ?_)
 ·have NZ:bd≠a:=by simpa using Tc
  obtain ⟨nX,nc,mz,yU⟩:=F6.prev Gf NZ;have Gv:=AT F6 Gf NZ;refine bE<|aI<|bT<|aK Z<|aa (aB Z (fF.all b2 bs))<|c0 R0 Z (UT w f P F A cv ff c p far l b bd _ th hf bL aE) λ ahs qT=> ?_;have Lp:=J th qT;refine vm Z<|b0 Z Z<|b0 Z Z<|va Z<|aT Z<|aI<|aF<| ?_;have fF:=fF.later qT;refine aa (aB Z (fF.all b2 bs))<|c0 aai Z (afI bd _ (by first | omega | (dsimp only;omega))) λ K5 pQ=> ?_;have uZ:=J Lp pQ;refine vm Z<|aJ<|bT<| ?_;have dW:=(J qT pQ);have aG:=aG.later dW;have bJ:=bJ.later dW;have aE:=aE.later dW;have cw:=cw.later dW;have fF:=fF.later pQ;have k_:=k_.later dW;refine gi (λ cJ cu aV=>∃ j:Nat,cu= [(4, .pointer (a_ dJ)),(5, .pointer (a_ iW)),(6, .slice none 0 0),(7,γ 0),(8,γ 0),(9, .pointer (a_ p)),(11, .slice pS out.length Bq),(12, .pointer (a_ ra)),(13,γ (oU f bd)),(32, .agg #[γ bd.x,γ bd.y]),(33, .agg #[γ a.x,γ a.y]),(34, .bool (!decide (bd=a))),(35, .tuple #[γ (oU f bd), .bool (f.ground bd)]),(36, .pointer (a_ p)),(37, .agg #[γ bd.x,γ bd.y]),(38, .tuple #[γ (oU f bd), .bool (f.ground bd)]),(39,γ (oU f bd)),(40, .bool (f.ground bd)),(41, .agg #[γ bd.x,γ bd.y]),(42, .agg #[γ bd.x,γ (bd.y - 1),γ (bd.x - 1),γ bd.y,γ (bd.x+1),γ bd.y,γ bd.x,γ (bd.y+1)]),(43,γ (j:Int))]∧cJ=4 - j∧Ext w aV∧aO aV dJ [γ a.x,γ a.y] 98 (0,0)∧aO aV iW [γ b.x,γ b.y] 98 (0,0)∧aO aV p [γ f.wide,γ f.high, .slice P f.places.length cv,γ b.x,γ b.y, .slice F far.length ff, .slice A ((l:List b5).length) c] 163 (0,0)∧bz.aM 3 8 aV hX.heap.size (Φ.ab F) F ff far∧aO aV ra [γ bd.x,γ bd.y] 98 (0,0)∧ai.rep.aM 98 16 aV w.heap.size (Φ.ab pS) pS Bq out∧(j≤4)∧(∀ i,i<j→(f.ground ((dH bd).getD i default) && decide (0≤cE f a b ((dH bd).getD i default)) && decide (cE f a b ((dH bd).getD i default)+f.fk bd=cE f a b bd))=false)) _ _ ⟨0,Z,Z,uZ,aG,bJ,aE,cw,fF,k_,by omega,λ i ak=>by omega⟩ (eS Z Z Z) ?_;rintro aeS aDU K6 ⟨j,rfl,rfl,r5,aG,bJ,aE,cw,fF,k_,aw,ju⟩;have afS:=aG.lt;have ayh:=bJ.lt;have ayi:=aE.lt;have xn:=bZ cw.lt;have aKP:=fF.lt;have Pz:=bZ k_.lt;refine aF<|fB Z Z<|aJ<|aI<| ?_;refine fH Z (λ arh=> ?_) (λ arh=> ?_)
  ·refine bE<|aI<|bT<|aF<| ?_;obtain ⟨b',ib⟩:∃ b',(dH bd).getD j default=b':=⟨_,rfl⟩;have TQ:=agw (c:=bd) (j:=j) (by omega);rw [ib] at TQ;refine aa (On Z Z (afJ bd j (by omega) ib _))<|dn sC Z λ aA9 aEZ fr aIF nB=> ?_;have WM:=J r5 fr;have aKU:=nB.lt;refine c9 Z Z nB Z bs Z Z λ Hi ie nB=> ?_;have:=ie.size;have ob:=Ext.mod WM ie bF;refine aJ<|aK Z<|aa (aB Z (nB.all b2 bs))<| ?_;have aE:=(aE.later fr).mod ie aY;refine c0 R0 Z (UT w f P F A cv ff c p far l b b' _ ob hf bL aE) λ EJ eG=> ?_;have:=eG.size;have kz:=J ob eG;refine vm Z<|b0 Z Z<|b0 Z Z<|va Z<|aT Z<|aI<| ?_;rcases alf (f.ground b') (decide (0≤cE f a b b')) (((cE f a b b')+(oU f bd))== (cE f a b bd)) with bU | ⟨bU,yH⟩ | ⟨bU,yH,DX⟩ | ⟨bU,yH,DX⟩
   ·have wv:(f.ground b' && decide (0≤cE f a b b') && decide (cE f a b b'+f.fk bd=cE f a b bd))=false:=by rw [bU];rfl
    refine dw [(5,0),(7,0),(8,0),(10,0),(17,0),(19,0),(20,0),(22,0),(28,0),(30,0),(31,0),(33,0)] [0,1,2,3,4,5,6,7,8,9,10,11,12,13,14,15,16,17,18,19,20,21,22,23,24,25,26,27,28,29,30,31,32,33,34,35] ?_;refine ax rfl (λ _=>jA (gy rfl bU))<|bn rfl rfl<|cV rfl rfl<|cV rfl rfl<|cV rfl rfl<|i_ rfl rfl<|cV rfl rfl<|i_ rfl rfl<|km (v:=undef) (args:= []) rfl rfl rfl rfl rfl rfl lM (λ hc=>nomatch hc) (λ hc=>nomatch hc) rfl<|cV rfl rfl<|i_ rfl rfl<|cV rfl rfl<|ax rfl (λ _=>oV rfl rfl)<|bn rfl rfl<|cV rfl rfl<|cV rfl rfl<|cV rfl rfl<|i_ rfl rfl<|cV rfl rfl<|i_ rfl rfl<|km (v:=undef) (args:= []) rfl rfl rfl rfl rfl rfl lM (λ hc=>nomatch hc) (λ hc=>nomatch hc) rfl<|cV rfl rfl<|i_ rfl rfl<|cV rfl rfl<| ?_;refine cV rfl rfl<|cV rfl rfl<|cV rfl rfl<|cV rfl rfl<|i_ rfl rfl<|cV rfl rfl<|i_ rfl rfl<|km (v:=undef) (args:= []) rfl rfl rfl rfl rfl rfl lM (λ hc=>nomatch hc) (λ hc=>nomatch hc) rfl<|cV rfl rfl<|i_ rfl rfl<|cV rfl rfl<|ax rfl (λ _=>oV rfl rfl)<|fn λ K_ mI=> ?_;have zf:=J kz mI;refine br<|hP Z<|fZ<|cl<|eR Z Z Z<| ?_;have lq:=(J eG mI);have aG:=((aG.later fr).mod ie aY).later lq;have bJ:=((bJ.later fr).mod ie aY).later lq;have aE:=aE.later lq;have cw:=((cw.later fr).mod ie (c2 λ q I af=>by have:=xn q I;have:=AL q I;omega)).later lq;have fF:=((fF.later fr).mod ie aY).later lq;have k_:=((k_.later fr).mod ie (bl Pz)).later lq;exact eX ⟨j+1,Z,Z,zf,aG,bJ,aE,cw,fF,k_,by omega,D3 ju (by rw [ib];exact wv)⟩
   ·have lj:=av.jr bU;obtain ⟨OR,OS,OT⟩:=i' hf ic.len lj;have wv:(f.ground b' && decide (0≤cE f a b b') && decide (cE f a b b'+f.fk bd=cE f a b bd))=false:=by rw [bU,yH];rfl
    refine dw [(5,0),(7,0),(8,0),(10,0),(17,0),(19,0),(20,0),(22,0),(28,0),(30,0),(31,0),(33,0)] [0,1,2,3,4,5,6,7,8,9,10,11,12,13,14,15,16,17,18,19,20,21,22,23,24,25,26,27,28,29,30,31,32,33,34,35] ?_;refine ax Z (λ _=>jA (gy Z bU))<|bn Z Z<|eQ Z Z Z<|bR Z Z (λ hc _=>b3 Z)<|bR Z Z (λ hc _=>au nL Z)<| ?_;have aE:=aE.later eG;refine dE Z Z (λ hc _ x=>aB Z ((aE.later x).one fI Z))<|eQ Z Z Z<| ?_;have nB:=nB.later eG;refine dE Z Z (λ hc _ x=>aB Z ((nB.later x).all b2 bs))<|km Z Z Z Z Z Z lM (λ hc=>Z) (λ hc _ x=>qF w f P F A cv ff c p far l b b' _ (J kz x) hf bL (aE.later x) (by first | omega | (dsimp only;omega))) Z<| ?_;have cw:=((cw.later fr).mod ie (c2 λ q I af=>by have:=xn q I;have:=AL q I;omega)).later eG;have BQ:=(i' hf ic.len lj).1;refine bR rfl rfl (λ hc _=>bX ((b'.y * f.wide+b'.x).toNat) underlying46 cr rfl rfl (cw.has.bw (aZ ((b'.y * f.wide+b'.x).toNat) (by omega))) (by (try simp only [cq] at hc);omega) (by omega))<|dE rfl rfl (λ hc _ x=>aB rfl (Φ.aQ.dj dA ((cw.later x).has.cg (aZ ((b'.y * f.wide+b'.x).toNat) (by omega))) (ic.get hf lj) rfl a6))<|bR rfl rfl (λ hc _=>ld rfl rfl)<|ax rfl (λ _=>nY rfl (gy rfl yH))<|bn rfl rfl<|cV rfl rfl<|cV rfl rfl<|cV rfl rfl<|i_ rfl rfl<|cV rfl rfl<|i_ rfl rfl<|km (v:=undef) (args:= []) rfl rfl rfl rfl rfl rfl lM (λ hc=>nomatch hc) (λ hc=>nomatch hc) rfl<|cV rfl rfl<|i_ rfl rfl<|cV rfl rfl<|cV rfl rfl<|cV rfl rfl<|cV rfl rfl<|cV rfl rfl<|i_ rfl rfl<|cV rfl rfl<|i_ rfl rfl<|km (v:=undef) (args:= []) rfl rfl rfl rfl rfl rfl lM (λ hc=>nomatch hc) (λ hc=>nomatch hc) rfl<|cV rfl rfl<| ?_;refine i_ Z Z<|cV Z Z<|ax Z (λ _=>oV Z Z)<|fn λ Wa A2=> ?_;have E0:=J kz A2;refine br<|hP Z<|fZ<|cl<|eR Z Z Z<| ?_;have qy:=(J eG A2);have aG:=((aG.later fr).mod ie aY).later qy;have bJ:=((bJ.later fr).mod ie aY).later qy;have aE:=aE.later A2;have cw:=cw.later A2;have fF:=((fF.later fr).mod ie aY).later qy;have k_:=((k_.later fr).mod ie (bl Pz)).later qy;exact eX ⟨j+1,Z,Z,E0,aG,bJ,aE,cw,fF,k_,by omega,D3 ju (by rw [ib];exact wv)⟩
   ·have lj:=av.jr bU;obtain ⟨OR,OS,OT⟩:=i' hf ic.len lj;obtain ⟨awo,awp,awq⟩:=i' hf ic.len DJ;have arw:=DD b';have mj:=aNY yH;have wv:(f.ground b' && decide (0≤cE f a b b') && decide (cE f a b b'+f.fk bd=cE f a b bd))=false:=by rw [nN,aQh] at DX;rw [bU,yH,aNu DX];rfl
    refine dw [(5,0),(7,0),(8,0),(10,0),(17,0),(19,0),(20,0),(22,0),(28,0),(30,0),(31,0),(33,0)] [0,1,2,3,4,5,6,7,8,9,10,11,12,13,14,15,16,17,18,19,20,21,22,23,24,25,26,27,28,29,30,31,32,33,34,35] ?_;refine ax Z (λ _=>jA (gy Z bU))<|bn Z Z<|eQ Z Z Z<|bR Z Z (λ hc _=>b3 Z)<|bR Z Z (λ hc _=>au nL Z)<| ?_;have aE:=aE.later eG;refine dE Z Z (λ hc _ x=>aB Z ((aE.later x).one fI Z))<|eQ Z Z Z<| ?_;have nB:=nB.later eG;refine dE Z Z (λ hc _ x=>aB Z ((nB.later x).all b2 bs))<|km Z Z Z Z Z Z lM (λ hc=>Z) (λ hc _ x=>qF w f P F A cv ff c p far l b b' _ (J kz x) hf bL (aE.later x) (by first | omega | (dsimp only;omega))) Z<| ?_;have cw:=((cw.later fr).mod ie (c2 λ q I af=>by have:=xn q I;have:=AL q I;omega)).later eG;have BQ:=(i' hf ic.len lj).1;refine bR Z Z (λ hc _=>bX ((b'.y * f.wide+b'.x).toNat) underlying46 cr Z Z (cw.has.bw (aZ ((b'.y * f.wide+b'.x).toNat) (by omega))) (by (try simp only [cq] at hc);omega) (by omega))<|dE Z Z (λ hc _ x=>aB Z (Φ.aQ.dj dA ((cw.later x).has.cg (aZ ((b'.y * f.wide+b'.x).toNat) (by omega))) (ic.get hf lj) Z a6))<|bR Z Z (λ hc _=>ld Z Z)<|ax Z (λ _=>nY Z (gy Z yH))<|bn Z Z<|eQ Z Z Z<|bR Z Z (λ hc _=>b3 Z)<|bR Z Z (λ hc _=>au nL Z)<|dE Z Z (λ hc _ x=>aB Z ((aE.later x).one fI Z))<|eQ Z Z Z<|dE Z Z (λ hc _ x=>aB Z ((nB.later x).all b2 bs))<|km Z Z Z Z Z Z lM (λ hc=>Z) (λ hc _ x=>qF w f P F A cv ff c p far l b b' _ (J kz x) hf bL (aE.later x) (by first | omega | (dsimp only;omega))) Z<|bR Z Z (λ hc _=>bX ((b'.y * f.wide+b'.x).toNat) underlying46 cr Z Z (cw.has.bw (aZ ((b'.y * f.wide+b'.x).toNat) (by omega))) (by (try simp only [cq] at hc);omega) (by omega))<|dE Z Z (λ hc _ x=>aB Z (Φ.aQ.dj dA ((cw.later x).has.cg (aZ ((b'.y * f.wide+b'.x).toNat) (by omega))) (ic.get hf lj) Z a6))<|eQ Z Z Z<|bR Z Z (λ hc _=>bad Z Z (ll (by (try simp only [cq] at hc);omega)))<|eQ Z Z Z<|bR Z Z (λ hc _=>b3 Z)<|bR Z Z (λ hc _=>au nL Z)<|dE Z Z (λ hc _ x=>aB Z ((aE.later x).one fI Z))<|eQ Z Z Z<| ?_;have fF:=((fF.later fr).mod ie aY).later eG;have BQ:=(i' hf ic.len DJ).1;refine dE Z Z (λ hc _ x=>aB Z ((fF.later x).all b2 bs))<|km Z Z Z Z Z Z lM (λ hc=>Z) (λ hc _ x=>qF w f P F A cv ff c p far l b bd _ (J kz x) hf bL (aE.later x) (by first | omega | (dsimp only;omega))) Z<|bR Z Z (λ hc _=>bX ((bd.y * f.wide+bd.x).toNat) underlying46 cr Z Z (cw.has.bw (aZ ((bd.y * f.wide+bd.x).toNat) (by omega))) (by (try simp only [cq] at hc);omega) (by omega))<|dE Z Z (λ hc _ x=>aB Z (Φ.aQ.dj dA ((cw.later x).has.cg (aZ ((bd.y * f.wide+bd.x).toNat) (by omega))) (ic.get hf DJ) Z a6))<|bR Z Z (λ hc _=>beq Z Z)<|ax Z (λ _=>nY Z (gy Z DX))<|fn λ ahB zc=> ?_;have WO:=J kz zc;refine br<|hP Z<|fZ<|cl<|eR Z Z Z<| ?_;have yL:=(J eG zc);have aG:=((aG.later fr).mod ie aY).later yL;have bJ:=((bJ.later fr).mod ie aY).later yL;have aE:=aE.later zc;have cw:=cw.later zc;have fF:=fF.later zc;have k_:=((k_.later fr).mod ie (bl Pz)).later yL;exact eX ⟨j+1,Z,Z,WO,aG,bJ,aE,cw,fF,k_,by omega,D3 ju (by rw [ib];exact wv)⟩
   ·have lj:=av.jr bU;obtain ⟨OR,OS,OT⟩:=i' hf ic.len lj;obtain ⟨awo,awp,awq⟩:=i' hf ic.len DJ;have arw:=DD b';have mj:=aNY yH;have asY:kK f (cE f a b) bd=b':=by rw [nN,aNV] at DX;rw [← ib];exact axP (by omega) ju (by rw [ib,bU,yH,aNp DX];rfl)
    rw [asY] at nX nc mz yU Gv;obtain ⟨_,_,aIZ,aI0,aI1,aI2⟩:=av.idx hf lj;have acu:=aBi jb Gv;refine dw [(5,0),(7,0),(8,0),(10,0),(17,0),(19,0),(20,0),(22,0),(28,0),(30,0),(31,0),(33,0)] [0,1,2,3,4,5,6,7,8,9,10,11,12,13,14,15,16,17,18,19,20,21,22,23,24,25,26,27,28,29,30,31,32,33,34,35] ?_;refine ax Z (λ _=>jA (gy Z bU))<|bn Z Z<|eQ Z Z Z<|bR Z Z (λ hc _=>b3 Z)<|bR Z Z (λ hc _=>au nL Z)<| ?_;have aE:=aE.later eG;refine dE Z Z (λ hc _ x=>aB Z ((aE.later x).one fI Z))<|eQ Z Z Z<| ?_;have nB:=nB.later eG;refine dE Z Z (λ hc _ x=>aB Z ((nB.later x).all b2 bs))<|km Z Z Z Z Z Z lM (λ hc=>Z) (λ hc _ x=>qF w f P F A cv ff c p far l b b' _ (J kz x) hf bL (aE.later x) (by first | omega | (dsimp only;omega))) Z<| ?_;have cw:=((cw.later fr).mod ie (c2 λ q I af=>by have:=xn q I;have:=AL q I;omega)).later eG;have BQ:=(i' hf ic.len lj).1;refine bR Z Z (λ hc _=>bX ((b'.y * f.wide+b'.x).toNat) underlying46 cr Z Z (cw.has.bw (aZ ((b'.y * f.wide+b'.x).toNat) (by omega))) (by (try simp only [cq] at hc);omega) (by omega))<|dE Z Z (λ hc _ x=>aB Z (Φ.aQ.dj dA ((cw.later x).has.cg (aZ ((b'.y * f.wide+b'.x).toNat) (by omega))) (ic.get hf lj) Z a6))<|bR Z Z (λ hc _=>ld Z Z)<|ax Z (λ _=>nY Z (gy Z yH))<|bn Z Z<|eQ Z Z Z<|bR Z Z (λ hc _=>b3 Z)<|bR Z Z (λ hc _=>au nL Z)<|dE Z Z (λ hc _ x=>aB Z ((aE.later x).one fI Z))<|eQ Z Z Z<|dE Z Z (λ hc _ x=>aB Z ((nB.later x).all b2 bs))<|km Z Z Z Z Z Z lM (λ hc=>Z) (λ hc _ x=>qF w f P F A cv ff c p far l b b' _ (J kz x) hf bL (aE.later x) (by first | omega | (dsimp only;omega))) Z<|bR Z Z (λ hc _=>bX ((b'.y * f.wide+b'.x).toNat) underlying46 cr Z Z (cw.has.bw (aZ ((b'.y * f.wide+b'.x).toNat) (by omega))) (by (try simp only [cq] at hc);omega) (by omega))<|dE Z Z (λ hc _ x=>aB Z (Φ.aQ.dj dA ((cw.later x).has.cg (aZ ((b'.y * f.wide+b'.x).toNat) (by omega))) (ic.get hf lj) Z a6))<|eQ Z Z Z<|bR Z Z (λ hc _=>bad Z Z (ll (by (try simp only [cq] at hc);omega)))<|eQ Z Z Z<|bR Z Z (λ hc _=>b3 Z)<|bR Z Z (λ hc _=>au nL Z)<|dE Z Z (λ hc _ x=>aB Z ((aE.later x).one fI Z))<|eQ Z Z Z<| ?_;have fF:=((fF.later fr).mod ie aY).later eG;have BQ:=(i' hf ic.len DJ).1;refine dE Z Z (λ hc _ x=>aB Z ((fF.later x).all b2 bs))<|km Z Z Z Z Z Z lM (λ hc=>Z) (λ hc _ x=>qF w f P F A cv ff c p far l b bd _ (J kz x) hf bL (aE.later x) (by first | omega | (dsimp only;omega))) Z<|bR Z Z (λ hc _=>bX ((bd.y * f.wide+bd.x).toNat) underlying46 cr Z Z (cw.has.bw (aZ ((bd.y * f.wide+bd.x).toNat) (by omega))) (by (try simp only [cq] at hc);omega) (by omega))<|dE Z Z (λ hc _ x=>aB Z (Φ.aQ.dj dA ((cw.later x).has.cg (aZ ((bd.y * f.wide+bd.x).toNat) (by omega))) (ic.get hf DJ) Z a6))<|bR Z Z (λ hc _=>beq Z Z)<|ax Z (λ _=>nY Z (gy Z DX))<|fn λ ahC lW=> ?_;have:=lW.size;have Lx:=J kz lW;refine br<|gZ Z<|aF<| ?_;have nB:=nB.later lW;refine aa (aB Z (nB.all b2 bs))<| ?_;have fF:=fF.later lW;refine c9 Z Z fF Z bs Z Z λ aAN ub fF=> ?_;have:=ub.size;have Wq:=Ext.mod Lx ub bF;refine aJ<|ej<|Lc Z<|ei<|eU<|eh<|br<|rg<|vm Z<|aa (aB Z (fF.all b2 bs))<|b_ (e:= 98) (cs:= [γ b'.x,γ b'.y]) Z (λ _=>by kernel_rfl) Z λ VX aEo rZ aHV Xd=> ?_;have ET:=J Wq rZ;have aJ7:=Xd.lt;have k_:=((((k_.later fr).mod ie (bl Pz)).later (J eG lW)).mod ub (c2 FD)).later rZ;refine ap akW Φ.c6 k_ (aO.fy (R:=ai.rep) (by_:=16) (q:=b') Xd ⟨Z,⟨gl,gl⟩⟩ (by decide)) Z Z (by have ato:=ab0;simp only [aM1,aM5];omega) (by have ato:=ab0;simp only [aM1,aM5];omega) (by omega) Z λ aLA aiu amf wL L3 NH aJa=> ?_;have:=wL.size;have aB4:=Ext.mod ET wL (λ q I=>aNm (by omega) (k_.lt q I).1);have ag3:=bZ L3.lt;refine va Z<|nl<|cl<|br<|aF<| ?_;have fF:=(fF.later rZ).mod wL (λ I=>FD _ I rfl);refine aa (aB Z (fF.all b2 bs))<|aJ<|rg<|dn sC Z λ PC alh EO aH0 Qk=> ?_;have CG:=J aB4 EO;refine c9 Z Z Qk Z bs Z Z λ aLJ D7 Qk=> ?_;have aCc:=Ext.mod CG D7 bF;refine nl<| ?_;have aG:=(((((((aG.later fr).mod ie aY).later (J eG lW)).mod ub aY).later rZ).mod wL (λ I=>vQ _ I rfl)).later EO).mod D7 aY;have bJ:=(((((((bJ.later fr).mod ie aY).later (J eG lW)).mod ub aY).later rZ).mod wL (λ I=>yi _ I rfl)).later EO).mod D7 aY;have aE:=(((((aE.later lW).mod ub aY).later rZ).mod wL (λ I=>yj _ I rfl)).later EO).mod D7 aY;have cw:=(((((cw.later lW).mod ub (c2 arp)).later rZ).mod wL (gg Bx)).later EO).mod D7 (c2 λ q I af=>by have:=xn q I;have:=AL q I;omega);have fF:=(fF.later EO).mod D7 aY;have L3:=(L3.later EO).mod D7 (bl ag3);exact lT _ _ ⟨b',alh,out++ [b'],aiu,amf,Z,Z,aCc,aG,bJ,aE,cw,Qk,L3,(by omega),(by omega),(by omega),(by omega),(λ q I=>by have:=abv q I;omega),mz,acu,(by omega),(gz NH vQ),(gz NH yi),(gz NH yj),(λ q I af=>by (have:=ag3 q I;omega)),(λ q I af=>by (exact aNq (NH q I) (λ J1=>by (exact Bx q J1 af)) (λ J1=>by (have:=xn q af;have:=AL q af;omega))))⟩ (by omega) (ih Z)
  ·exfalso;have iY:j=4:=by omega
   rw [iY] at ju;exact av.azt nX (axQ ju)
 ·have NZ:bd=a:=by simpa using Tc
  refine ej<|ei<|eU<|eh<|br<|aK Z<|ca apk Z Z ((ayP _ _ w.heap.size out _ k_ (ai.Q' k_.has)).mono ?_);rintro e aLN ⟨rfl,QU,OE⟩;refine cF ?_;have ahT:=Ext.mod th OE (λ q I=>(k_.lt q I).1);refine aJ<|aI<| ?_;refine dw [(4,0),(6,0),(7,0),(9,0)] [0,1,2,3,4,5,6,7,8,9,10,11,12] ?_;refine bn Z Z<|bn Z Z<|ax Z (λ _=>b3 Z)<|ax Z (λ _=>au nL Z)<| ?_;have aE:=aE.mod OE (λ I=>yj _ I rfl);refine cP Z Z aE fI Z<|bn Z Z<| ?_;have bJ:=bJ.mod OE (λ I=>yi _ I rfl);refine cS Z (λ _ x=>aB Z ((bJ.later x).all b2 bs))<|rk Z Z lM Z (λ _ x=>qF w f P F A cv ff c p far l b b _ (J ahT x) hf bL (aE.later x) (by first | omega | (dsimp only;omega))) Z<| ?_;have cw:=cw.mod OE (gg Bx);refine ax Z (λ _=>bX ((b.y * f.wide+b.x).toNat) underlying46 cr Z Z (cw.has.bw (aZ ((b.y * f.wide+b.x).toNat) (by have rq:=(i' hf ic.len lg).1;omega))) (by omega) (by have rq:=(i' hf ic.len lg).1;omega))<|cS Z (λ _ x=>aB Z (Φ.aQ.dj dA ((cw.later x).has.cg (aZ ((b.y * f.wide+b.x).toNat) (by have rq:=(i' hf ic.len lg).1;omega))) (ic.get hf lg) Z a6))<|ax Z (λ _=>eV Z)<|ax Z (λ _=>eV Z)<|ax Z (λ _=>eV Z)<|fn λ aLO Hn=> ?_;have aCf:=J ahT Hn;refine br<|rt<|dS (.tmp Z (.tmp Z (.tmp Z .nil)))<| ?_;have QU:=QU.later Hn;have Gu:out=fb f (cE f a b) a b:=by rw [NZ,AS F6] at jb;simpa using jb
  exact ⟨_,_,by rw [← Gu,aON];rfl,by rw [← Gu];exact QU,aCf⟩
end
section
section
variable {f:av} {a b c x:ai} {dl far:List Int} {d:Int}
def Q_ (f:av):List ai:=(List.range f.high.toNat).flatMap λ (y:Nat)=>(List.range f.wide.toNat).map λ (x:Nat)=>(⟨(x:Int),(y:Int)⟩:ai)
theorem av5 (hc:f.dV c=true):c∈Q_ f:=by
 unfold av.dV at hc;rw [aNa] at hc;have κ:=jw hc.1;have τ:=jw hc.2;unfold Q_;rw [List.mem_flatMap];refine ⟨c.y.toNat,aND.2 (by omega),aNn.2 ⟨c.x.toNat,aND.2 (by omega), ?_⟩⟩;obtain ⟨Bv,IG⟩:=c;simp only [ai.mk.injEq] at κ τ ⊢;omega
def YU (f:av) (a b:ai) (dl far:List Int) (c:ai):Bool :=
 (decide (0≤f.ao dl c) || decide (f.ao dl c= -1)) &&
 (!decide (0≤f.ao dl c) || (f.ground c && ((decide (c=a) && decide (f.ao dl c=0)) || (dH c).any λ p=>decide (0≤f.ao dl p) && decide (f.ao dl c=f.ao dl p+f.fk c)))) &&
 (!decide (0≤f.ao dl c) || (f.cD c).all λ y=>decide (0≤f.ao dl y) && decide (f.ao dl y≤f.ao dl c+f.fk y)) &&
 decide (f.ao far c=if 0≤f.ao dl c∧(f.ao dl b<0∨f.ao dl c+av.iZ b c≤f.ao dl b) then f.ao dl c else -1) &&
 decide (f.ao dl c≤3 * (f.places.length:Int))
def YT (f:av) (a b:ai) (dl far:List Int):Bool:=decide (far.length=f.places.length) && decide (f.ao dl a=0) && (Q_ f).all (YU f a b dl far)
theorem cert (h:YT f a b dl far=true):mN f a b far:=by
 unfold YT at h;simp only [aNa,aM8,aNJ] at h;obtain ⟨⟨hlen,ha⟩,ep⟩:=h;have at_:∀ c,f.dV c=true→_:=λ c hc=>ep c (av5 hc);unfold YU at at_;simp only [aNa,aNG,aOa,aM8,aM7,aOh,aNJ] at at_;have neg:∀ c,f.ao dl c<0→f.ao dl c= -1:=λ c h=>by
  cases hc:f.dV c with
  | false=>exact av.Dt hc
  | true=>have:=(at_ c hc).1.1.1.1;omega
 have gr:∀ c,0≤f.ao dl c→f.ground c=true∧((c=a∧f.ao dl c=0)∨∃ p∈dH c,0≤f.ao dl p∧f.ao dl c=f.ao dl p+f.fk c):=λ c h=>by
  obtain κ:=(at_ c (av.Sl h)).1.1.1.2;rcases κ with κ | ⟨κ,τ⟩
  ·exact absurd h κ
  ·exact ⟨κ,τ⟩
 have nV:∀ c,0≤f.ao dl c→∀ y∈f.cD c,0≤f.ao dl y∧f.ao dl y≤f.ao dl c+f.fk y:=λ c h y aH=>by
  rcases (at_ c (av.Sl h)).1.1.2 with κ | κ
  ·exact absurd h κ
  ·exact κ y aH
 have au:∀ c,f.ao far c=if 0≤f.ao dl c∧(f.ao dl b<0∨f.ao dl c+av.iZ b c≤f.ao dl b) then f.ao dl c else -1:=λ c=>by
  cases hc:f.dV c with
  | false=>rw [av.Dt hc,av.Dt hc,aM4 (by omega)]
  | true=>exact (at_ c hc).1.2
 have low:∀ c d,l_.ma f.cD f.fk (λ s=>s=a) c d→0≤f.ao dl c∧f.ao dl c≤d:=λ c d r=>by
  induction r with
  | start hs=>subst hs;omega
  | step _ aH bu=>have:=nV _ bu.1 _ aH;omega
 have up:∀ n:Nat,∀ c,0≤f.ao dl c→(f.ao dl c).toNat=n→l_.ma f.cD f.fk (λ s=>s=a) c (f.ao dl c):=by
  intro n;induction n using Nat.strongRecOn with
  | ind n bu =>
   intro c hc hn;obtain ⟨g,κ | ⟨p,κ,τ,aq⟩⟩:=gr c hc
   ·rw [κ.2];exact .start κ.1
   ·have:=f.mY (c:=c);rw [aq];exact .step (bu (f.ao dl p).toNat (by omega) p τ Z) (av.Ei.2 ⟨av.G7 κ,g⟩)
 have Om:∀ c,0≤f.ao dl c→l_.pZ f.cD f.fk (λ s=>s=a) c (f.ao dl c):=λ c hc=>⟨up _ c hc rfl,λ d r=>(low c d r).2⟩;have az2:∀ D,l_.pZ f.cD f.fk (λ s=>s=a) b D→0≤f.ao dl b∧D=f.ao dl b:=λ D mT=>⟨(low b D mT.1).1,mT.uniq (Om b (low b D mT.1).1)⟩;have pos:∀ c,0≤f.ao far c→0≤f.ao dl c∧(f.ao dl b<0∨f.ao dl c+av.iZ b c≤f.ao dl b)∧f.ao far c=f.ao dl c:=λ c h=>by
  rw [au c] at h ⊢;split at h
  ·rename_i dP;rw [aNd dP];exact ⟨dP.1,dP.2,Z⟩
  ·omega
 refine ⟨hlen,⟨λ c h=> ?_,λ c h=> ?_,λ c d hd hle=> ?_,λ c h=> ?_⟩,λ c=> ?_,λ c h=>(gr c (pos c h).1).1⟩
 ·rw [au c] at h ⊢;split at h
  ·omega
  ·rename_i dP;rw [aM4 dP]
 ·obtain ⟨κ,τ,aq⟩:=pos c h;rw [aq];refine ⟨Om c κ,λ D mT=> ?_⟩;obtain ⟨bb,bV⟩:=az2 D mT;rw [bV];omega
 ·have κ:=low c d hd.1;have τ:=hd.uniq (Om c κ.1);have Tt:f.ao dl b<0∨f.ao dl c+av.iZ b c≤f.ao dl b:=by
   by_cases aq:f.ao dl b<0
   ·exact .inl aq
   ·right;have:=hle _ (Om b (by omega));omega
  rw [au c,aNd ⟨κ.1,Tt⟩,← τ]
 ·obtain ⟨κ,τ,aq⟩:=pos c h;rw [aq];obtain ⟨g,bb | ⟨p,bb,bV,cy⟩⟩:=gr c κ
  ·exact .inl bb
  ·right;have he:=av.Nn b (av.G7 bb);have aj:=f.mY (c:=c);have hp:f.ao far p=f.ao dl p:=by rw [au p,aNd ⟨bV,by omega⟩]
   exact ⟨p,by rw [hp];exact bV,av.Ei.2 ⟨av.G7 bb,g⟩,by rw [hp];exact cy⟩
 ·by_cases h:0≤f.ao far c
  ·obtain ⟨κ,τ,aq⟩:=pos c h;rw [aq];exact (at_ c (av.Sl κ)).2
  ·omega
end
theorem afw (f:av) (a b:ai) (P:Option Addr) (cv:Nat) (w:World) (bL:bz.aQ 8 w P cv f.places):
  Calls prog 72 #[.agg #[.int .i64 f.wide, .int .i64 f.high, .slice P f.places.length cv], .agg #[.int .i64 a.x, .int .i64 a.y], .agg #[.int .i64 b.x, .int .i64 b.y]] w (λ e w'=>∃ A c,e= .returned (.tuple #[.slice A (cR f a b).length c, .int .i64 (iA f a b), .int .i64 (eI f a b)])∧ai.rep.aM 98 16 w' w.heap.size (Φ.ab A) A c (cR f a b)∧Ext w w'):=by
 by_cases he:eI f a b=0
 ·rcases Sd f a b with ⟨κ,τ⟩ | ⟨κ,τ,aq⟩ | ⟨κ,τ,aq,bb⟩ | ⟨κ,τ,aq,bb | bb⟩
  ·rw [τ] at he;exact absurd he κ
  ·rw [aq] at he;exact absurd he τ
  ·rw [bb] at he;cases he
  ·rw [bb.2] at he;cases he
  ·unfold cR iA;rw [aNd he,aNd he,he];exact axG f a b P cv w bL κ τ aq bb.1
 ·unfold cR iA;rw [aM4 he,aM4 he];exact (axF f a b P cv w bL he).mono λ e w' h=>⟨none,0,h.1,Φ.aM.nil _,h.2⟩
section
variable {f:av} {a b:ai} {far:List Int}
theorem apW (h:mN f a b far) (hf:f.a7=0) (ha:f.ground a=true) (af:f.ground b=true) (aC:0≤f.ao far b):eI f a b=0∧iA f a b=f.ao far b∧cR f a b=(fb f (f.ao far) a b).reverse:=by
 have κ:0≤cE f a b b:=by rw [← h.Ds];exact aC
 have he:=Nt hf ha af κ;refine ⟨he, ?_, ?_⟩
 ·unfold iA;rw [aNd he,h.Ds]
 ·unfold cR;rw [aNd he,h.Ds]
end
end
theorem ye (A:Option Addr) (c:Nat) (l:List Int) (w:World) (h:bz.aQ 8 w A c l):
  Calls prog 65 #[.slice A l.length c] w λ e w'=>∃ bS cn,e= .returned (.slice bS l.length cn)∧bz.aM 3 8 w' w.heap.size (Φ.ab bS) bS cn l∧(bS=none↔A=none)∧Below w.heap.size w w':=by
 obtain ⟨i0,ak,B4,DT,DU⟩:=aQF wG;have afW:∀ (w:World) (a:Option Addr) (n c na cn:Nat),(binOp .eql 46 (.slice a n c) (.slice none na cn)).run prog w= .ok (.bool a.isNone) w:=λ w a n c na cn=>aQg w _ _ a n c na cn underlying46;cases A with
 | none =>
  obtain rfl:c=0:=h.2.2.2.1 rfl;obtain rfl:l= []:=aNv (by have:=h.1;omega);go_enter func65,ntmps65;go_wp2_with fail
  go_ret;exact ⟨none,0,Z,Φ.aM.nil _,by simp,aNH _ _⟩
 | some a =>
  have cT:Below w.heap.size w (w.alloc (.cells #[] 3)):=(aNH _ w).alloc (aNk _) _;obtain ⟨n,jj⟩:∃ n,Hid (l.length=n):=⟨_,aNc rfl⟩;obtain ⟨κ,τ,aq,bb,ess,bV,cy⟩:=h.keep cT;have HN:=aNc bV;have tV:∀ u∈ess.flatten,u.oneCell'=true:=by
   intro u hu;obtain ⟨y,aH,hu⟩:=aOe.1 hu;obtain ⟨a,ha⟩:=bV.left y aH;exact bz.one ha u hu
  have yE:∀ (j:Nat) u,ess.flatten[j]? =some u→bz.raw (j % bz.size) u:=λ j u hu=>Nw bV (by decide) hu;rw [jj.out] at κ aq cy;have o_:=aNc cy;have q1:=aNc (Own.empty (e:= 3) (size:=bz.size) (G:=bz.raw) w (aNk w.heap.size));clear h bb bV cy;rw [jj.out];go_enter func65,ntmps65;go_wp2_with (at_builtin;refine Wi _ rfl _ _ 46 rfl w.heap.size 3 i0 (.int .i64 0) bz.size 8 underlying46 ak B4 DT DU rfl (by decide) bz.raw aB1 _ _ _ rfl q1.out (some a) n c ess.flatten rfl o_.out tV yE ?qc4 ?qc5 ?qc6 ?_)
  case qc4=>unfold maxLen;omega
  case qc5=>omega
  case qc6=>simp
  intro v' aN jv qh wx gu;have dO:=cT.grown qh (by simp) (by intro k aj;simp [Value.ownBlock] at aj;omega);obtain ⟨cc,bd,rfl,hle,_,_,_,mj⟩:=jv.shape;have kU:cc≠none:=by
   intro h;subst h;exact wx (mj Z)
  have bc:Hid (bz.aM 3 8 aN w.heap.size (Φ.ab cc) cc bd l):=aNc (Φ.aM.GV ayJ HN.out (by rw [jj.out];exact aq) (by rw [jj.out];simpa using jv));have zm:=aNc kU;clear qh wx gu jv kU mj tV yE;go_wp2_with fail
  go_ret;exact ⟨cc,bd,Z,bc.out,⟨λ h=>absurd h zm.out,λ h=>by cases h⟩,dO⟩
theorem MG (A:Option Addr) (c:Nat) (l:List ai) (w:World) (h:ai.rep.aQ 16 w A c l):
  Calls prog 64 #[.slice A l.length c] w λ e w'=>∃ bS cn,e= .returned (.slice bS l.length cn)∧ai.rep.aM 98 16 w' w.heap.size (Φ.ab bS) bS cn l∧(bS=none↔A=none)∧Below w.heap.size w w':=by
 obtain ⟨i0,ak,B4,DT,DU⟩:=aQF ai.info;have afW:∀ (w:World) (a:Option Addr) (n c na cn:Nat),(binOp .eql 49 (.slice a n c) (.slice none na cn)).run prog w= .ok (.bool a.isNone) w:=λ w a n c na cn=>aQg w _ _ a n c na cn underlying49;cases A with
 | none =>
  obtain rfl:c=0:=h.2.2.2.1 rfl;obtain rfl:l= []:=aNv (by have:=h.1;omega);go_enter func64,ntmps64;go_wp2_with fail
  go_ret;exact ⟨none,0,Z,Φ.aM.nil _,by simp,aNH _ _⟩
 | some a =>
  have cT:Below w.heap.size w (w.alloc (.cells #[] 98)):=(aNH _ w).alloc (aNk _) _;obtain ⟨n,jj⟩:∃ n,Hid (l.length=n):=⟨_,aNc rfl⟩;obtain ⟨κ,τ,aq,bb,ess,bV,cy⟩:=h.keep cT;have HN:=aNc bV;have tV:∀ u∈ess.flatten,u.oneCell'=true:=by
   intro u hu;obtain ⟨y,aH,hu⟩:=aOe.1 hu;obtain ⟨a,ha⟩:=bV.left y aH;exact ai.rep.one ha u hu
  have yE:∀ (j:Nat) u,ess.flatten[j]? =some u→ai.rep.raw (j % ai.rep.size) u:=λ j u hu=>Nw bV (by decide) hu;rw [jj.out] at κ aq cy;have o_:=aNc cy;have q1:=aNc (Own.empty (e:= 98) (size:=ai.rep.size) (G:=ai.rep.raw) w (aNk w.heap.size));clear h bb bV cy;rw [jj.out];go_enter func64,ntmps64;go_wp2_with (at_builtin;refine Wi _ rfl _ _ 49 rfl w.heap.size 98 i0 ai.zero ai.rep.size 16 underlying49 ak B4 DT DU rfl (by decide) ai.rep.raw ai.k6 _ _ _ rfl q1.out (some a) n c ess.flatten rfl o_.out tV yE ?qc4 ?qc5 ?qc6 ?_)
  case qc4=>unfold maxLen;omega
  case qc5=>omega
  case qc6=>simp
  intro v' aN jv qh wx gu;have dO:=cT.grown qh (by simp) (by intro k aj;simp [Value.ownBlock] at aj;omega);obtain ⟨cc,bd,rfl,hle,_,_,_,mj⟩:=jv.shape;have kU:cc≠none:=by
   intro h;subst h;exact wx (mj Z)
  have bc:Hid (ai.rep.aM 98 16 aN w.heap.size (Φ.ab cc) cc bd l):=aNc (Φ.aM.GV ai.plain HN.out (by rw [jj.out];exact aq) (by rw [jj.out];simpa using jv));have zm:=aNc kU;clear qh wx gu jv kU mj tV yE;go_wp2_with fail
  go_ret;exact ⟨cc,bd,Z,bc.out,⟨λ h=>absurd h zm.out,λ h=>by cases h⟩,dO⟩
theorem MH (A:Option Addr) (c:Nat) (l:List a8) (w:World) (h:a8.rep.aQ 56 w A c l):
  Calls prog 69 #[.slice A l.length c] w λ e w'=>∃ bS cn,e= .returned (.slice bS l.length cn)∧a8.rep.aM 108 56 w' w.heap.size (Φ.ab bS) bS cn l∧(bS=none↔A=none)∧Below w.heap.size w w':=by
 obtain ⟨i0,ak,B4,DT,DU⟩:=aQF a8.info;have afW:∀ (w:World) (a:Option Addr) (n c na cn:Nat),(binOp .eql 50 (.slice a n c) (.slice none na cn)).run prog w= .ok (.bool a.isNone) w:=λ w a n c na cn=>aQg w _ _ a n c na cn underlying50;cases A with
 | none =>
  obtain rfl:c=0:=h.2.2.2.1 rfl;obtain rfl:l= []:=aNv (by have:=h.1;omega);go_enter func69,ntmps69;go_wp2_with fail
  go_ret;exact ⟨none,0,Z,Φ.aM.nil _,by simp,aNH _ _⟩
 | some a =>
  have cT:Below w.heap.size w (w.alloc (.cells #[] 108)):=(aNH _ w).alloc (aNk _) _;obtain ⟨n,jj⟩:∃ n,Hid (l.length=n):=⟨_,aNc rfl⟩;obtain ⟨κ,τ,aq,bb,ess,bV,cy⟩:=h.keep cT;have HN:=aNc bV;have tV:∀ u∈ess.flatten,u.oneCell'=true:=by
   intro u hu;obtain ⟨y,aH,hu⟩:=aOe.1 hu;obtain ⟨a,ha⟩:=bV.left y aH;exact a8.rep.one ha u hu
  have yE:∀ (j:Nat) u,ess.flatten[j]? =some u→a8.rep.raw (j % a8.rep.size) u:=λ j u hu=>Nw bV (by decide) hu;rw [jj.out] at κ aq cy;have o_:=aNc cy;have q1:=aNc (Own.empty (e:= 108) (size:=a8.rep.size) (G:=a8.rep.raw) w (aNk w.heap.size));clear h bb bV cy;rw [jj.out];go_enter func69,ntmps69;go_wp2_with (at_builtin;refine Wi _ rfl _ _ 50 rfl w.heap.size 108 i0 a8.zero a8.rep.size 56 underlying50 ak B4 DT DU rfl (by decide) a8.rep.raw a8.k6 _ _ _ rfl q1.out (some a) n c ess.flatten rfl o_.out tV yE ?qc4 ?qc5 ?qc6 ?_)
  case qc4=>unfold maxLen;omega
  case qc5=>omega
  case qc6=>simp
  intro v' aN jv qh wx gu;have dO:=cT.grown qh (by simp) (by intro k aj;simp [Value.ownBlock] at aj;omega);obtain ⟨cc,bd,rfl,hle,_,_,_,mj⟩:=jv.shape;have kU:cc≠none:=by
   intro h;subst h;exact wx (mj Z)
  have bc:Hid (a8.rep.aM 108 56 aN w.heap.size (Φ.ab cc) cc bd l):=aNc (Φ.aM.GV a8.plain HN.out (by rw [jj.out];exact aq) (by rw [jj.out];simpa using jv));have zm:=aNc kU;clear qh wx gu jv kU mj tV yE;go_wp2_with fail
  go_ret;exact ⟨cc,bd,Z,bc.out,⟨λ h=>absurd h zm.out,λ h=>by cases h⟩,dO⟩
end Go.Proofs.YthlpmldmhakhaaaGreatDoor
