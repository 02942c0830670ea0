import Derived.Test.YthlpmldmhakhaaaGreatDoorPtq
import Derived.Shelf.Bits.Mul64
import Derived.Shelf.Spec.SlicesInsertGrow
import Derived.Shelf.Slices.Empties
set_option linter.unusedVariables false
set_option linter.unusedSimpArgs false
set_option maxRecDepth 100000
set_option maxHeartbeats 4000000
open Go.RowKit
namespace Go.Proofs.YthlpmldmhakhaaaGreatDoor
open Tryz
abbrev aOi:=@List.length_reverse
abbrev aON:=@congrArg
abbrev aOT:=@List.find?_eq_some_iff_getElem
abbrev aPl:=@Nat.min_le_right
abbrev aPK:=@Go.Lib.run_eql_slice_nil
abbrev aP7:=@Go.info_parts
abbrev aQh:=@List.take_append_of_le_length
abbrev aQT:=@List.getElem_reverse
abbrev aQU:=@List.take_set_of_le
abbrev aQX:=@List.drop_replicate
theorem axo (c:ai) (w:World):(Instr.index 158 (.agg #[γ c.x,γ (c.y - 1),γ (c.x - 1),γ c.y,γ (c.x+1),γ c.y,γ c.x,γ (c.y+1)]) (γ 0)).run prog w= .ok (.agg #[γ c.x,γ (c.y - 1)]) w:=by kernel_rfl
theorem axp (c:ai) (w:World):(Instr.index 158 (.agg #[γ c.x,γ (c.y - 1),γ (c.x - 1),γ c.y,γ (c.x+1),γ c.y,γ c.x,γ (c.y+1)]) (γ 1)).run prog w= .ok (.agg #[γ (c.x - 1),γ c.y]) w:=by kernel_rfl
theorem axq (c:ai) (w:World):(Instr.index 158 (.agg #[γ c.x,γ (c.y - 1),γ (c.x - 1),γ c.y,γ (c.x+1),γ c.y,γ c.x,γ (c.y+1)]) (γ 2)).run prog w= .ok (.agg #[γ (c.x+1),γ c.y]) w:=by kernel_rfl
theorem axr (c:ai) (w:World):(Instr.index 158 (.agg #[γ c.x,γ (c.y - 1),γ (c.x - 1),γ c.y,γ (c.x+1),γ c.y,γ c.x,γ (c.y+1)]) (γ 3)).run prog w= .ok (.agg #[γ c.x,γ (c.y+1)]) w:=by kernel_rfl
theorem afa (c:ai) (j:Nat) (aw:j<4) {b_:ai} (h:(dF c).getD j default=b_) (w:World):(Instr.index 158 (.agg #[γ c.x,γ (c.y - 1),γ (c.x - 1),γ c.y,γ (c.x+1),γ c.y,γ c.x,γ (c.y+1)]) (γ (j:Int))).run prog w= .ok (.agg #[γ b_.x,γ b_.y]) w:=by
 subst h;have:j=0∨j=1∨j=2∨j=3:=by omega
 rcases this with rfl | rfl | rfl | rfl
 ·exact axo c w
 ·exact axp c w
 ·exact axq c w
 ·exact axr c w
theorem afW {c:ai} {j:Nat} (aw:j<4):c.x - 1≤((dF c).getD j default).x∧((dF c).getD j default).x≤c.x+1∧c.y - 1≤((dF c).getD j default).y∧((dF c).getD j default).y≤c.y+1:=by
 have:j=0∨j=1∨j=2∨j=3:=by omega
 rcases this with rfl | rfl | rfl | rfl<;>simp [dF]<;>omega
theorem ae8 (w0:World) (f:au) (P F A:Option Addr) (cu fa c b:Nat) (far:List Int) (l:List b4) (bg:ai) (a cX:ai) (w:World) (jL:Ext w0 w) (hf:f.a7=0) (bJ:bz.aQ 8 w0 P cu f.places) (aE:aO w b [γ f.wide,γ f.high, .slice P f.places.length cu,γ bg.x,γ bg.y, .slice F far.length fa, .slice A l.length c] 163 (0,0)) (af:w0.heap.size≤b) (cv:bz.aL 3 8 w w0.heap.size (Φ.ab F) F fa far) (A1:b4.rep.aL 225 32 w w0.heap.size (Φ.ab A) A c l) (aa9:∀ q∈Φ.ab F,q=b→False) (NG:∀ q∈Φ.ab A,q=b→False) (aq3:∀ q∈Φ.ab A,q∈Φ.ab F→False) (hs:qT f a bg far l cX []) (hv:vu f bg far) (ew:f.dU bg=true) (aqT:l.length+5 * und far≤20000):
  Calls prog 125 #[.pointer (a_ b)] w (λ e w'=>∃ M6 bR cn N8,e= .returned (.tuple #[])∧aO w' b [γ f.wide,γ f.high, .slice P f.places.length cu,γ bg.x,γ bg.y, .slice F M6.length fa, .slice bR ((N8:List b4).length) cn] 163 (0,0)∧bz.aL 3 8 w' w0.heap.size (Φ.ab F) F fa M6∧mG f a bg M6∧Mod (b::(Φ.ab F++Φ.ab A)) w w'):=by
 obtain ⟨g1,g2,g3,g4,g5,g6⟩:=au.g_ hf;have wg:∀ q∈b::(Φ.ab F++Φ.ab A),w0.heap.size≤q:=λ q I=>(aMN.1 I).elim (λ h=>by omega) λ h=>(aMQ.1 h).elim (λ h=>(cv.lt q h).1) λ h=>(A1.lt q h).1;obtain ⟨_,_,aKJ,aKK,aKL,aKM⟩:=au.idx hf ew;refine cx (n:=108) func125 Z Z Z ?_;refine aN Z<|vm Z<|aa (b1 Z)<|aa (ar ZM Z)<|aa (aA Z (aE.par [γ bg.x,γ bg.y] b0 bs Z))<|de lG Z (qw w0 f P F A cu fa c b far l bg bg _ (Ext.mod jL (Mod.bM (b::(Φ.ab F++Φ.ab A)) w) wg) hf bJ aE (by first | omega | (dsimp only;omega))) λ dn gV=> ?_;have dK:=(Mod.bM (b::(Φ.ab F++Φ.ab A)) w).trans (Mod.aP gV);refine aU Z<|bV<| ?_;have aE:=aE.later gV;have cv:=cv.later gV;have A1:=A1.later gV;refine gh (λ cL cw aV=>∃ eu:List Int,∃ dO:List b4,∃ cc:Option Addr,∃ bd:Nat,∃ fj:ai,cw= [(0, .pointer (a_ b)),(2,γ (bg.y * f.wide+bg.x))]∧cL=(dO.length+5 * und eu)∧Mod (b::(Φ.ab F++Φ.ab A)) w aV∧aO aV b [γ f.wide,γ f.high, .slice P f.places.length cu,γ bg.x,γ bg.y, .slice F eu.length fa, .slice cc dO.length bd] 163 (0,0)∧bz.aL 3 8 aV w0.heap.size (Φ.ab F) F fa eu∧b4.rep.aL 225 32 aV w0.heap.size (Φ.ab cc) cc bd dO∧(qT f a bg eu dO fj [])∧(vu f bg eu)∧(dO.length+5 * und eu≤20000)∧(∀ q∈Φ.ab cc,q∈Φ.ab A∨w.heap.size≤q)∧(∀ q∈Φ.ab F,q=b→False)∧(∀ q∈Φ.ab cc,q=b→False)∧(∀ q∈Φ.ab cc,q∈Φ.ab F→False)) _ _ ⟨far,l,A,c,cX,Z,Z,dK,aE,cv,A1,hs,hv,aqT,λ q I=> .inl I,aa9,NG,aq3⟩ (ib Z) ?_;rintro avj aiR G3 ⟨eu,dO,cc,bd,fj,rfl,rfl,pK,iE,jX,nv,gm,nI,Dl,Th,Is,Fk,C0⟩;have:=pK.size;have afd:=iE.lt;have uf:=bY jX.lt;have KB:=bY nv.lt;obtain ⟨aKP,aKQ,aKR⟩:=iY hf gm.len ew;refine aI<|aI<| ?_;rcases XQ (decide (0<(dO.length:Int))) ((decide (f.ao eu bg<0)) || (decide ((dO.getD 0 default).all≤f.ao eu bg))) with bS | ⟨bS,r9⟩ | ⟨bS,r9⟩
 ·have Tb:=aw1 gm nI (by have o':=aOG bS;omega);refine du [(3,0),(4,0),(10,0),(13,0),(19,0),(22,0),(26,0),(29,0)] [0,1,2,3,4,5,6,7,8,9,10,11,12,13,14,15,16,17,18,19,20,21,22,23,24,25,26,27,28,29,30,31,32] ?_;refine bn Z Z<|ax Z (λ _=>b1 Z)<|ax Z (λ _=>ar C7 Z)<|cO Z Z iE oe Z<|q8 Z Z IA Z (λ _ x=>KY _ dO.length _ _) Z<|ax Z (λ _=>iv Z Z)<|ax Z (λ _=>jx (gl Z bS))<|cT Z Z<|cT Z Z<|cT Z Z<|iX Z Z<|cT Z Z<|cT Z Z<|iX Z Z<|cT Z Z<|cT Z Z<|p1 Z Z Z Z Z Z<|p1 Z Z Z Z Z Z<|p1 Z Z Z Z Z Z<|p1 Z Z Z Z Z Z<|p1 Z Z Z Z Z Z<|p1 Z Z Z Z Z Z<|p1 Z Z Z Z Z Z<|p1 Z Z Z Z Z Z<| ?_;refine p1 Z Z Z Z Z Z<|p1 Z Z Z Z Z Z<|p1 Z Z Z Z Z Z<|p1 Z Z Z Z Z Z<|p1 Z Z Z Z Z Z<|p1 Z Z Z Z Z Z<|p1 Z Z Z Z Z Z<|cT Z Z<|ax Z (λ _=>pn Z Z)<|fn λ yP ij=> ?_;have mC:=pK.trans (Mod.aP ij);refine br<|hL Z<|er<|ep<|eY<|eo<|ne<|dR .nil<| ?_;have nv:=nv.later ij;have jX:=jX.later ij;have iE:=iE.later ij;exact ⟨eu,cc,bd,dO,Z,iE,jX,Tb,mC⟩
 ·have yc:0<dO.length:=by simpa using bS
  obtain ⟨bH,Dy⟩:∃ bH,dO.getD 0 default=bH:=⟨_,rfl⟩;have JC:bH∈dO:=by rw [← Dy];exact mU yc
  obtain ⟨aJh,aJi,aJj,aJk,aJl,aJm,aJn,aJo,aJp⟩:=gm.node hf ew JC;have z7:=au.jn (gm.all bH JC).2;obtain ⟨aMq,aMr,aMs⟩:=iY hf gm.len z7;have p_:f.ao eu bg<0∨bH.all≤f.ao eu bg:=by rw [Dy] at r9;rw [aNa,aMD,aMD] at r9;exact r9
  refine du [(3,0),(4,0),(10,0),(13,0),(19,0),(22,0),(26,0),(29,0)] [0,1,2,3,4,5,6,7,8,9,10,11,12,13,14,15,16,17,18,19,20,21,22,23,24,25,26,27,28,29,30,31,32] ?_;have Bv:=(iY hf gm.len ew).1;refine bn Z Z<|ax Z (λ _=>b1 Z)<|ax Z (λ _=>ar C7 Z)<|cO Z Z iE oe Z<|q8 Z Z IA Z (λ _ x=>KY _ dO.length _ _) Z<|ax Z (λ _=>iv Z Z)<|ax Z (λ _=>jx (gl Z bS))<|eP Z Z Z<|bQ Z Z (λ hc _=>b1 Z)<|bQ Z Z (λ hc _=>ar nD Z)<|dB Z Z (λ hc _ x=>aA Z ((iE.later x).one fC Z))<|eP Z Z Z<|bQ Z Z (λ hc _=>bX ((bg.y * f.wide+bg.x).toNat) underlying46 cr Z Z (jX.has.bx (a1 ((bg.y * f.wide+bg.x).toNat) (by omega))) (by (try simp only [cq] at hc);omega) (by omega))<|dB Z Z (λ hc _ x=>aA Z (Φ.aQ.dm dy ((jX.later x).has.ck (a1 ((bg.y * f.wide+bg.x).toNat) (by omega))) (zL hf gm.len ew) Z aZ))<|bQ Z Z (λ hc _=>blt Z Z)<|eP Z Z Z<|eP Z Z Z<|bQ Z Z (λ hc _=>b1 (gt hc Z))<|bQ Z Z (λ hc _=>ar C7 (gt hc Z))<|dB Z Z (λ hc _ x=>aA (gt hc Z) ((iE.later x).one oe Z))<|bQ Z Z (λ hc _=>bX 0 underlying161 nE (gt hc Z) Z (nv.has.bx (a1 0 (by (try simp only [cq] at hc);omega))) Z (by (try simp only [cq] at hc);omega))<|bQ Z Z (λ hc _=>ar M0 (gt hc Z))<|dB Z Z (λ hc _ x=>aA (gt hc Z) (Φ.aQ.oh Dp ((nv.later x).has.ck (a1 0 (by (try simp only [cq] at hc);omega))) 3 (cl (l:=dO) (u:=default) (by (try simp only [cq] at hc);omega)) Z aZ))<|eP Z Z Z<| ?_;refine bQ Z Z (λ hc _=>b1 (gt hc Z))<|bQ Z Z (λ hc _=>ar nD (gt hc Z))<|dB Z Z (λ hc _ x=>aA (gt hc Z) ((iE.later x).one fC Z))<|eP Z Z Z<|bQ Z Z (λ hc _=>bX ((bg.y * f.wide+bg.x).toNat) underlying46 cr (gt hc Z) (gt hc Z) (jX.has.bx (a1 ((bg.y * f.wide+bg.x).toNat) (by omega))) (by (try simp only [cq] at hc);omega) (by omega))<|dB Z Z (λ hc _ x=>aA (gt hc Z) (Φ.aQ.dm dy ((jX.later x).has.ck (a1 ((bg.y * f.wide+bg.x).toNat) (by omega))) (zL hf gm.len ew) Z aZ))<|bQ Z Z (λ hc _=>ble (gt hc Z) (gt hc Z))<|bQ Z Z (λ hc _=>gq Z Z Z Z)<|ax Z (λ _=>oL Z (gl Z r9))<|fn λ yQ gi=> ?_;have:=gi.size;have iu:=pK.trans (Mod.aP gi);refine br<|gX Z<|bF<|bV<|aN Z<|aa (b1 Z)<|aa (ar C7 Z)<|aa (Gz (λ w=>by kernel_rfl) Z)<| ?_;have nv:=nv.later gi;have iE:=iE.later gi;have aaN:=aA4 b cc dO.length bd w0.heap.size dO (γ f.wide) (γ f.high) (.slice P f.places.length cu) (γ bg.x) (γ bg.y) (.slice F eu.length fa) _ iE nv (λ y aH=>(gm.node hf ew aH).2.2.2.2.2.2.2.2) rfl Fk yc (by omega);rw [Dy] at aaN;refine ca aoF Z Z ((aaN).mono ?_);rintro e qF ⟨rfl,pO,ES,Oo⟩;refine cK ?_;have:=Oo.size;have gR:=iu.md Oo (λ q I=>(aMN.1 I).elim (λ h=> .inl (by rw [h];exact aM5)) (λ h=>(Th q h).imp (λ h=>aMK _ (aPt _ h)) id));refine aa (agm (λ w=>by kernel_rfl) Z)<|dj Zu Z λ uk td dS adB eg=> ?_;have ka:=gR.trans (Mod.aP dS);refine c6 Z Z eg Z nE Z Z λ Au jN eg=> ?_;have jd:=ka.md jN (λ q I=> .inr (by have:=aMu.1 I;omega));refine aJ<|aI<|aI<| ?_;refine du [(3,0),(6,0),(7,0),(9,0)] [0,1,2,3,4,5,6,7,8,9,10] ?_;refine bn Z Z<|ax Z (λ _=>b1 Z)<|ax Z (λ _=>ar nD Z)<| ?_;have pO:=(pO.later dS).mod jN aY;refine cO Z Z pO fC Z<|bn Z Z<|ax Z (λ _=>ar RA Z)<|cR Z (λ _ x=>aA Z ((eg.later x).par [γ bH.cell.x,γ bH.cell.y] b0 bs Z))<|q8 Z Z lG Z (λ _ x=>qw w0 f P F cc cu fa bd b eu (cj.m_ b4.all dO) bg bH.cell _ (J (Ext.mod jL jd wg) x) hf bJ (pO.later x) (by first | omega | (dsimp only;omega))) Z<| ?_;have jX:=(((jX.later gi).mod Oo (λ q I h=>(aMN.1 h).elim (λ h=>Is q I h) (λ h=>C0 q h I))).later dS).mod jN (bk uf);refine ax Z (λ _=>bX ((bH.cell.y * f.wide+bH.cell.x).toNat) underlying46 cr Z Z (jX.has.bx (a1 ((bH.cell.y * f.wide+bH.cell.x).toNat) (by have ra:=(iY hf gm.len z7).1;omega))) (by omega) (by have ra:=(iY hf gm.len z7).1;omega))<|cR Z (λ _ x=>aA Z (Φ.aQ.dm dy ((jX.later x).has.ck (a1 ((bH.cell.y * f.wide+bH.cell.x).toNat) (by have ra:=(iY hf gm.len z7).1;omega))) (zL hf gm.len z7) Z aZ))<|ax Z (λ _=>k7 Z Z)<|fn λ G1 fU=> ?_;have rR:=jd.trans (Mod.aP fU);refine br<| ?_;refine CW Z (λ yg=> ?_) (λ yg=> ?_)
  ·have aj:=yg;refine er<|ep<|eo<| ?_;have pO:=pO.later fU;have jX:=jX.later fU;have ES:=((ES.later dS).mod jN (bk KB)).later fU;exact lM _ _ ⟨eu,cj.m_ b4.all dO,cc,bd,fj,Z,Z,rR,(by first | exact pO | (rw [abv];exact pO)),jX,ES,gm.ayT yc (by rw [Dy];exact aj),nI,by rw [cj.GF];omega,Th,Is,Fk,C0⟩ (by first | (rw [cj.GF];omega) | omega) (ib Z)
  ·have aj:f.ao eu bH.cell<0:=by omega
   obtain ⟨iI,abT⟩:=gm.new hf (au.OC f bg) yc (by rw [Dy];exact aj);rw [Dy] at iI abT;have TD:=az8 gm hf yc Dy aj nI p_;refine bF<|aI<| ?_;refine du [(3,0),(6,0),(7,0),(9,0),(11,3)] [0,1,2,3,4,5,6,7,8,9,10,11] ?_;refine bn Z Z<|ax Z (λ _=>b1 Z)<|ax Z (λ _=>ar nD Z)<| ?_;have pO:=pO.later fU;refine cO Z Z pO fC Z<|bn Z Z<|ax Z (λ _=>ar RA Z)<| ?_;have eg:=eg.later fU;refine cR Z (λ _ x=>aA Z ((eg.later x).par [γ bH.cell.x,γ bH.cell.y] b0 bs Z))<|q8 Z Z lG Z (λ _ x=>qw w0 f P F cc cu fa bd b eu (cj.m_ b4.all dO) bg bH.cell _ (J (Ext.mod jL rR wg) x) hf bJ (pO.later x) (by first | omega | (dsimp only;omega))) Z<|ax Z (λ _=>ar ZO Z)<|cO Z Z eg aZ Z<| ?_;have jX:=jX.later fU;refine ax Z (λ _=>bX ((bH.cell.y * f.wide+bH.cell.x).toNat) underlying46 cr Z Z (jX.has.bx (a1 ((bH.cell.y * f.wide+bH.cell.x).toNat) (by have ra:=(iY hf gm.len z7).1;omega))) (by omega) (by have ra:=(iY hf gm.len z7).1;omega))<|dA Z Z Z λ sN im Q hK=>so (q':=bH.far) (j:=0) (i:=((bH.cell.y * f.wide+bH.cell.x).toNat)) (jX.later im) Φ.cZ (zL hf gm.len z7) Z Z Z Z (λ _ cs h=>by have wS:=(show _∧_ from h).2;obtain rfl:=dy h;exact ⟨rfl,cH.2 (by omega)⟩) Z Z cr λ Vy wH QJ=>hK _ _ ?_;have k1:=rR.trans (Mod.aP im);have xq:=k1.md wH (λ q I=> .inl (aMK _ (aPE _ I)));refine fn λ xe di=> ?_;have k2:=xq.trans (Mod.aP di);refine br<|aG<|aa (ar RA Z)<| ?_;have eg:=eg.later im;have zB:∀ q∈Φ.ab F,q=td→False:=λ q I af=>by (have:=uf q I;omega)
   have eg:=(eg.mod wH (λ I=>zB _ I rfl)).later di;refine aa (aA Z (eg.par [γ bH.cell.x,γ bH.cell.y] b0 bs Z))<| ?_;have QJ:=QJ.later di;have F9:∃ zK,eu.set (f.at_ bH.cell) bH.far=zK:=⟨_,rfl⟩;obtain ⟨zK,F9⟩:=F9;rw [F9] at iI abT TD;have abv:zK.length=eu.length:=by rw [← F9,aMM]
   have ho:bz.aL 3 8 xe w0.heap.size (Φ.ab F) F fa zK:=by rw [← F9];exact QJ
   have arh:f.ao zK bH.cell=bH.far:=by rw [← F9];exact au.Nf hf gm.len z7
   refine de ZP Z (ae9 bH.cell _ (by first | omega | (dsimp only;omega))) λ VB ir=> ?_;have Cq:=k2.trans (Mod.aP ir);refine vm Z<|aJ<|bV<| ?_;have ee:=(J di ir);have pO:=((pO.later im).mod wH (λ I=>Is _ I rfl)).later ee;have ES:=((((ES.later dS).mod jN (bk KB)).later (J fU im)).mod wH C0).later ee;have ho:=ho.later ir;have eg:=eg.later ir;refine gh (λ cL cw aV=>∃ j:Nat,∃ iJ:List b4,∃ cz:Option Addr,∃ bP:Nat,cw= [(0, .pointer (a_ b)),(2,γ (bg.y * f.wide+bg.x)),(3, .pointer (a_ td)),(14, .pointer (a_ b)),(15, .pointer (a_ b)),(16, .pointer (some ⟨b,6,none⟩)),(17, .slice cc dO.length bd),(18,γ (dO.length:Int)),(19, .bool (decide (0<(dO.length:Int)))),(20, .bool true),(21, .pointer (a_ b)),(22, .pointer (a_ b)),(23, .pointer (some ⟨b,5,none⟩)),(24, .slice F eu.length fa),(25,γ (bg.y * f.wide+bg.x)),(26, .pointer (some ⟨et F,jO F+((bg.y * f.wide+bg.x).toNat) * 1,none⟩)),(27,γ (f.ao eu bg)),(28, .bool (decide (f.ao eu bg<0))),(29, .bool (decide (f.ao eu bg<0))),(30,eb ((decide (f.ao eu bg<0))== false) (.pointer (a_ b))),(31,eb ((decide (f.ao eu bg<0))== false) (.pointer (a_ b))),(32,eb ((decide (f.ao eu bg<0))== false) (.pointer (some ⟨b,6,none⟩))),(33,eb ((decide (f.ao eu bg<0))== false) (.slice cc dO.length bd)),(34,eb ((decide (f.ao eu bg<0))== false) (.pointer (some ⟨et cc,jO cc+0 * 4,none⟩))),(35,eb ((decide (f.ao eu bg<0))== false) (.pointer (some ⟨et cc,jO cc+0 * 4+3,none⟩))),(36,eb ((decide (f.ao eu bg<0))== false) (γ ((dO.getD 0 default).all))),(37,eb ((decide (f.ao eu bg<0))== false) (.pointer (a_ b))),(38,eb ((decide (f.ao eu bg<0))== false) (.pointer (a_ b))),(39,eb ((decide (f.ao eu bg<0))== false) (.pointer (some ⟨b,5,none⟩))),(40,eb ((decide (f.ao eu bg<0))== false) (.slice F eu.length fa)),(41,eb ((decide (f.ao eu bg<0))== false) (γ (bg.y * f.wide+bg.x))),(42,eb ((decide (f.ao eu bg<0))== false) (.pointer (some ⟨et F,jO F+((bg.y * f.wide+bg.x).toNat) * 1,none⟩))),(43,eb ((decide (f.ao eu bg<0))== false) (γ (f.ao eu bg))),(44,eb ((decide (f.ao eu bg<0))== false) (.bool (decide ((dO.getD 0 default).all≤f.ao eu bg)))),(45, .bool ((decide (f.ao eu bg<0)) || (decide ((dO.getD 0 default).all≤f.ao eu bg)))),(46, .bool true),(47, .pointer (a_ b)),(48, .pointer (a_ b)),(49, .pointer (some ⟨b,6,none⟩)),(50, .iface 223 (.pointer (some ⟨b,6,none⟩))),(51, .iface 225 (.agg #[γ bH.cell.x,γ bH.cell.y,γ bH.far,γ bH.all])),(52, .agg #[γ bH.cell.x,γ bH.cell.y,γ bH.far,γ bH.all]),(53, .pointer (a_ b)),(54, .pointer (a_ b)),(55, .pointer (some ⟨b,5,none⟩)),(56, .slice F eu.length fa),(57, .pointer (a_ b)),(58, .pointer (a_ td)),(59, .agg #[γ bH.cell.x,γ bH.cell.y]),(60,γ (bH.cell.y * f.wide+bH.cell.x)),(61, .pointer (some ⟨et F,jO F+((bH.cell.y * f.wide+bH.cell.x).toNat) * 1,none⟩)),(62,γ (f.ao eu bH.cell)),(63, .bool (decide (0≤f.ao eu bH.cell))),(64, .pointer (a_ b)),(65, .pointer (a_ b)),(66, .pointer (some ⟨b,5,none⟩)),(67, .slice F eu.length fa),(68, .pointer (a_ b)),(69, .pointer (a_ td)),(70, .agg #[γ bH.cell.x,γ bH.cell.y]),(71,γ (bH.cell.y * f.wide+bH.cell.x)),(72, .pointer (some ⟨td,2,none⟩)),(73,γ bH.far),(74, .pointer (some ⟨et F,jO F+((bH.cell.y * f.wide+bH.cell.x).toNat) * 1,none⟩)),(75, .pointer (a_ td)),(76, .agg #[γ bH.cell.x,γ bH.cell.y]),(77, .agg #[γ bH.cell.x,γ (bH.cell.y - 1),γ (bH.cell.x - 1),γ bH.cell.y,γ (bH.cell.x+1),γ bH.cell.y,γ bH.cell.x,γ (bH.cell.y+1)]),(78,γ (j:Int))]∧cL=4 - j∧Mod (b::(Φ.ab F++Φ.ab A)) w aV∧aO aV td [γ bH.cell.x,γ bH.cell.y,γ bH.far,γ bH.all] 225 (0,0)∧bz.aL 3 8 aV w0.heap.size (Φ.ab F) F fa zK∧aO aV b [γ f.wide,γ f.high, .slice P f.places.length cu,γ bg.x,γ bg.y, .slice F eu.length fa, .slice cz iJ.length bP] 163 (0,0)∧b4.rep.aL 225 32 aV w0.heap.size (Φ.ab cz) cz bP iJ∧(j≤4)∧(qT f a bg zK iJ bH.cell (((dF bH.cell).drop j).filter f.ground))∧(iJ.length+1≤dO.length+j)∧(∀ q∈Φ.ab cz,q∈Φ.ab A∨w.heap.size≤q)∧(∀ q∈Φ.ab cz,q=td→False)∧(∀ q∈Φ.ab cz,q=b→False)∧(∀ q∈Φ.ab cz,q∈Φ.ab F→False)) _ _ ⟨0,cj.m_ b4.all dO,cc,bd,Z,Z,Cq,eg,ho,pO,ES,by omega,iI,by rw [cj.GF];omega,Th,(λ q I af=>by (have:=KB q I;omega)),Fk,C0⟩ (eV Z Z Z) ?_;rintro wJ aDe um ⟨j,iJ,cz,bP,rfl,rfl,jU,eg,ho,gC,uY,aw,iI,nH,Jj,zD,vD,od⟩;have axC:=eg.lt;have O':=bY ho.lt;have axD:=gC.lt;have Vh:=bY uY.lt;refine aG<|fI Z Z<|aJ<|aI<| ?_;refine fM Z (λ aqA=> ?_) (λ aqA=> ?_)
   ·refine bF<|aI<|bV<|aG<| ?_;obtain ⟨b_,hY⟩:∃ b_,(dF bH.cell).getD j default=b_:=⟨_,rfl⟩;have Ts:=afW (c:=bH.cell) (j:=j) (by omega);rw [hY] at Ts;refine aa (N5 Z Z (afa bH.cell j (by omega) hY _))<|dj sk Z λ KQ aEn mA aH4 rV=> ?_;have xt:=jU.trans (Mod.aP mA);have aKh:=rV.lt;refine c6 Z Z rV Z bs Z Z λ VF tR rV=> ?_;have:=tR.size;have Hh:=xt.md tR (λ q I=> .inr (by have:=aMu.1 I;omega));refine aJ<|aN Z<|aa (aA Z (rV.all b0 bs))<| ?_;have gC:=(gC.later mA).mod tR aY;refine de RB Z (Uq w0 f P F cz cu fa bP b eu iJ bg b_ _ (Ext.mod jL Hh wg) hf bJ gC) λ VG fo=> ?_;have:=fo.size;have uO:=Hh.trans (Mod.aP fo);refine vm Z<|b2 Z Z<|b2 Z Z<|va Z<|aU Z<|aI<| ?_;rcases XQ (f.ground b_) (decide (f.ao zK b_<0)) with bS | ⟨bS,r9⟩ | ⟨bS,r9⟩
    ·have Tx:=iI.au3 (by omega) (by rw [hY];exact bS);refine du [(5,0),(7,0),(8,0),(10,0)] [0,1,2,3,4,5,6,7,8,9,10,11,12] ?_;refine ax rfl (λ _=>jx (gl rfl bS))<|bn rfl rfl<|cT rfl rfl<|cT rfl rfl<|cT rfl rfl<|iX rfl rfl<|cT rfl rfl<|iX rfl rfl<|kh (v:=undef) (args:= []) rfl rfl rfl rfl rfl rfl lG (λ hc=>nomatch hc) (λ hc=>nomatch hc) rfl<|cT rfl rfl<|iX rfl rfl<|cT rfl rfl<|ax rfl (λ _=>pn rfl rfl)<|fn λ Ep uI=> ?_;have jV:=uO.trans (Mod.aP uI);refine br<|hL Z<|gb<|cm<|eR Z Z Z<| ?_;have lg:=(J fo uI);have eg:=((eg.later mA).mod tR aY).later lg;have ho:=((ho.later mA).mod tR (cY λ q I af=>by have:=O' q I;have:=uf q I;omega)).later lg;have gC:=gC.later lg;have uY:=((uY.later mA).mod tR (bk Vh)).later lg;exact fh ⟨j+1,iJ,cz,bP,Z,Z,jV,eg,ho,gC,uY,by omega,Tx,by omega,Jj,zD,vD,od⟩
    ·have k_:=au.jn bS;obtain ⟨Ox,Oy,Oz⟩:=iY hf iI.len k_;have aFY:=f.mR (c:=b_);have nF:=aeU hf bS;refine du [(5,0),(7,0),(8,0),(10,0)] [0,1,2,3,4,5,6,7,8,9,10,11,12] ?_;refine ax Z (λ _=>jx (gl Z bS))<|bn Z Z<|eP Z Z Z<|bQ Z Z (λ hc _=>b1 Z)<|bQ Z Z (λ hc _=>ar nD Z)<| ?_;have gC:=gC.later fo;refine dB Z Z (λ hc _ x=>aA Z ((gC.later x).one fC Z))<|eP Z Z Z<| ?_;have rV:=rV.later fo;refine dB Z Z (λ hc _ x=>aA Z ((rV.later x).all b0 bs))<|kh Z Z Z Z Z Z lG (λ hc=>Z) (λ hc _ x=>qw w0 f P F cz cu fa bP b eu iJ bg b_ _ (J (Ext.mod jL uO wg) x) hf bJ (gC.later x) (by first | omega | (dsimp only;omega))) Z<| ?_;have ho:=((ho.later mA).mod tR (cY λ q I af=>by have:=O' q I;have:=uf q I;omega)).later fo;have Bv:=(iY hf iI.len k_).1;refine bQ Z Z (λ hc _=>bX ((b_.y * f.wide+b_.x).toNat) underlying46 cr Z Z (ho.has.bx (a1 ((b_.y * f.wide+b_.x).toNat) (by omega))) (by (try simp only [cq] at hc);omega) (by omega))<|dB Z Z (λ hc _ x=>aA Z (Φ.aQ.dm dy ((ho.later x).has.ck (a1 ((b_.y * f.wide+b_.x).toNat) (by omega))) (zL hf iI.len k_) Z aZ))<|bQ Z Z (λ hc _=>blt Z Z)<|ax Z (λ _=>oL Z (gl Z r9))<|fn λ G4 kr=> ?_;have:=kr.size;have n4:=uO.trans (Mod.aP kr);refine br<|gX Z<|rg<|vm Z<| ?_;have rV:=rV.later kr;refine aa (aA Z (rV.all b0 bs))<|aa (ar ZO Z)<| ?_;have eg:=((eg.later mA).mod tR aY).later (J fo kr);refine bA Z eg aZ Z<|vm Z<|fi Z Z<| ?_;have uY:=((uY.later mA).mod tR (bk Vh)).later (J fo kr);have gC:=gC.later kr;refine ca RD Z Z ((Ut w0 f P F cz cu fa bP b eu iJ bg b_ (bH.far+(oK f b_)) _ (Ext.mod jL n4 wg) hf bJ gC af uY vD (λ y aH=>(iI.node hf ew aH).2.2.2.2.2.2.2.2) (by omega) (by omega) (by omega) (by omega)).mono ?_);rintro e agW ⟨ahN,alA,rfl,aiX,aja,aq2,Tg,Ua⟩;refine cK ?_;have Ld:=n4.md Ua (λ q I=>(aMN.1 I).elim (λ h=> .inl (by rw [h];exact aM5)) (λ h=>(Jj q h).imp (λ h=>aMK _ (aPt _ h)) id));have ast:=iI.au2 (n:=⟨b_,bH.far+(oK f b_),bH.far+(oK f b_)+au.iW bg b_⟩) (au.OC f bg) (by omega) (by rw [hY];exact bS) (by rw [hY]) (by rw [hY,arh,← nF]) (by rw [hY]);refine nl<|cm<|eR Z Z Z<| ?_;have eg:=eg.mod Ua (λ I=>(aMN.1 I).elim (λ h=>by omega) (λ h=>(show ∀ q,q∈Φ.ab cz→q=td→False from λ q h af=>by (exact zD q h af)) _ h rfl));have ho:=(ho.later kr).mod Ua (λ q I h=>(aMN.1 h).elim (λ h=>Is q I h) (λ h=>od q h I));exact fh ⟨j+1,cj.push b4.all iJ ⟨b_,bH.far+(oK f b_),bH.far+(oK f b_)+au.iW bg b_⟩,ahN,alA,Z,Z,Ld,eg,ho,aiX,aja,by omega,ast,by rw [cj.Kj];omega,(λ q I=>(Tg q I).elim (Jj q) (λ h=> .inr (by omega))),(gp Tg zD),aq2,(λ q I af=>by (exact aMS (Tg q I) (λ adp=>by (exact od q adp af)) (λ adp=>by (have:=O' q af;have:=uf q af;omega))))⟩
    ·have k_:=au.jn bS;obtain ⟨Ox,Oy,Oz⟩:=iY hf iI.len k_;have Tx:=iI.au1 (by omega) (by rw [hY];have o':=aOG r9;omega) (by rw [hY];exact bS);refine du [(5,0),(7,0),(8,0),(10,0)] [0,1,2,3,4,5,6,7,8,9,10,11,12] ?_;refine ax Z (λ _=>jx (gl Z bS))<|bn Z Z<|eP Z Z Z<|bQ Z Z (λ hc _=>b1 Z)<|bQ Z Z (λ hc _=>ar nD Z)<| ?_;have gC:=gC.later fo;refine dB Z Z (λ hc _ x=>aA Z ((gC.later x).one fC Z))<|eP Z Z Z<| ?_;have rV:=rV.later fo;refine dB Z Z (λ hc _ x=>aA Z ((rV.later x).all b0 bs))<|kh Z Z Z Z Z Z lG (λ hc=>Z) (λ hc _ x=>qw w0 f P F cz cu fa bP b eu iJ bg b_ _ (J (Ext.mod jL uO wg) x) hf bJ (gC.later x) (by first | omega | (dsimp only;omega))) Z<| ?_;have ho:=((ho.later mA).mod tR (cY λ q I af=>by have:=O' q I;have:=uf q I;omega)).later fo;have Bv:=(iY hf iI.len k_).1;refine bQ Z Z (λ hc _=>bX ((b_.y * f.wide+b_.x).toNat) underlying46 cr Z Z (ho.has.bx (a1 ((b_.y * f.wide+b_.x).toNat) (by omega))) (by (try simp only [cq] at hc);omega) (by omega))<|dB Z Z (λ hc _ x=>aA Z (Φ.aQ.dm dy ((ho.later x).has.ck (a1 ((b_.y * f.wide+b_.x).toNat) (by omega))) (zL hf iI.len k_) Z aZ))<|bQ Z Z (λ hc _=>blt Z Z)<|ax Z (λ _=>oL Z (gl Z r9))<|fn λ VH AG=> ?_;have EH:=uO.trans (Mod.aP AG);refine br<|hL Z<|gb<|cm<|eR Z Z Z<| ?_;have qp:=(J fo AG);have eg:=((eg.later mA).mod tR aY).later qp;have ho:=ho.later AG;have gC:=gC.later AG;have uY:=((uY.later mA).mod tR (bk Vh)).later qp;exact fh ⟨j+1,iJ,cz,bP,Z,Z,EH,eg,ho,gC,uY,by omega,Tx,by omega,Jj,zD,vD,od⟩
   ·refine er<|ep<|eY<|eo<|cm<| ?_;exact lM _ _ ⟨zK,iJ,cz,bP,bH.cell,Z,Z,jU,(by first | exact gC | (rw [abv];exact gC)),ho,uY,(by have e:j=4:=(by omega);subst e;exact iI),TD,by omega,Jj,Is,vD,od⟩ (by first | (rw [cj.GF];omega) | omega) (ib Z)
 ·have yc:0<dO.length:=by simpa using bS
  have Tb:=aw0 gm nI yc (by rw [aNj,aMC,aMC] at r9;omega) (by rw [aNj,aMC,aMC] at r9;omega);refine du [(3,0),(4,0),(10,0),(13,0),(19,0),(22,0),(26,0),(29,0)] [0,1,2,3,4,5,6,7,8,9,10,11,12,13,14,15,16,17,18,19,20,21,22,23,24,25,26,27,28,29,30,31,32] ?_;have Bv:=(iY hf gm.len ew).1;refine bn Z Z<|ax Z (λ _=>b1 Z)<|ax Z (λ _=>ar C7 Z)<|cO Z Z iE oe Z<|q8 Z Z IA Z (λ _ x=>KY _ dO.length _ _) Z<|ax Z (λ _=>iv Z Z)<|ax Z (λ _=>jx (gl Z bS))<|eP Z Z Z<|bQ Z Z (λ hc _=>b1 Z)<|bQ Z Z (λ hc _=>ar nD Z)<|dB Z Z (λ hc _ x=>aA Z ((iE.later x).one fC Z))<|eP Z Z Z<|bQ Z Z (λ hc _=>bX ((bg.y * f.wide+bg.x).toNat) underlying46 cr Z Z (jX.has.bx (a1 ((bg.y * f.wide+bg.x).toNat) (by omega))) (by (try simp only [cq] at hc);omega) (by omega))<|dB Z Z (λ hc _ x=>aA Z (Φ.aQ.dm dy ((jX.later x).has.ck (a1 ((bg.y * f.wide+bg.x).toNat) (by omega))) (zL hf gm.len ew) Z aZ))<|bQ Z Z (λ hc _=>blt Z Z)<|eP Z Z Z<|eP Z Z Z<|bQ Z Z (λ hc _=>b1 (gt hc Z))<|bQ Z Z (λ hc _=>ar C7 (gt hc Z))<|dB Z Z (λ hc _ x=>aA (gt hc Z) ((iE.later x).one oe Z))<|bQ Z Z (λ hc _=>bX 0 underlying161 nE (gt hc Z) Z (nv.has.bx (a1 0 (by (try simp only [cq] at hc);omega))) Z (by (try simp only [cq] at hc);omega))<|bQ Z Z (λ hc _=>ar M0 (gt hc Z))<|dB Z Z (λ hc _ x=>aA (gt hc Z) (Φ.aQ.oh Dp ((nv.later x).has.ck (a1 0 (by (try simp only [cq] at hc);omega))) 3 (cl (l:=dO) (u:=default) (by (try simp only [cq] at hc);omega)) Z aZ))<|eP Z Z Z<| ?_;refine bQ Z Z (λ hc _=>b1 (gt hc Z))<|bQ Z Z (λ hc _=>ar nD (gt hc Z))<|dB Z Z (λ hc _ x=>aA (gt hc Z) ((iE.later x).one fC Z))<|eP Z Z Z<|bQ Z Z (λ hc _=>bX ((bg.y * f.wide+bg.x).toNat) underlying46 cr (gt hc Z) (gt hc Z) (jX.has.bx (a1 ((bg.y * f.wide+bg.x).toNat) (by omega))) (by (try simp only [cq] at hc);omega) (by omega))<|dB Z Z (λ hc _ x=>aA (gt hc Z) (Φ.aQ.dm dy ((jX.later x).has.ck (a1 ((bg.y * f.wide+bg.x).toNat) (by omega))) (zL hf gm.len ew) Z aZ))<|bQ Z Z (λ hc _=>ble (gt hc Z) (gt hc Z))<|bQ Z Z (λ hc _=>gq Z Z Z Z)<|ax Z (λ _=>oL Z (gl Z r9))<|fn λ agZ yZ=> ?_;have Wi:=pK.trans (Mod.aP yZ);refine br<|hL Z<|er<|ep<|eY<|eo<|ne<|dR .nil<| ?_;have nv:=nv.later yZ;have jX:=jX.later yZ;have iE:=iE.later yZ;exact ⟨eu,cc,bd,dO,Z,iE,jX,Tb,Wi⟩
def avU:Go.Shelf.Ren:=⟨fun | 212=> 146 | 263=> 159 | 264=> 160 | n=>n,fun | 46=> 91 | 53=> 129 | 51=> 121 | 146=> 122 | 148=> 242 | n=>n,fun | n=>n⟩
theorem aug:Go.Proofs.Lays.n212 prog avU:= {
 mixed:=by kernel_rfl
 f212:=func146.trans (aON some (by kernel_rfl))
 f263:=func159.trans (aON some (by kernel_rfl))
 f264:=func160.trans (aON some (by kernel_rfl))
 t46:=underlying91
 a46:=isAgg91
 z46:=sizeOf91
 v46:=zeroValue91
 t51:=underlying121
 a51:=isAgg121
 z51:=sizeOf121
 v51:=zeroValue121
 t53:=underlying129
 a53:=isAgg129
 z53:=sizeOf129
 v53:=zeroValue129
 t146:=underlying122
 a146:=isAgg122
 z146:=sizeOf122
 v146:=zeroValue122
 t148:=underlying242
 a148:=isAgg242
 z148:=sizeOf242
 v148:=zeroValue242 }
theorem mul_one (n:Nat) (hn:n<18446744073709551616) (w:World):Calls prog 146 #[.int .u64 1, .int .u64 (n:Int)] w (λ e w'=>e= .returned (.tuple #[.int .u64 0, .int .u64 (n:Int)])∧Ext w w'):=by
 refine (Any.bits_Mul aug 1 n (by decide) hn w).mono λ e w' ⟨κ,τ⟩=> ?_;subst τ;rw [κ];refine ⟨?_,Ext.bM _⟩;rw [Nat.one_mul,Nat.div_eq_of_lt hn,aP9 hn];rfl
section
variable {w:World} {B c g:Nat} {l:List Int}
def aEv (l:List Int) (x:Int):Nat:=l.countP λ y=>decide (y<x)
def sr (n:Int):Value:= .int .i64 n
theorem Z4 {w:World} {B:Nat}:∀ {ps:List (List Nat×List Value)} {l:List Int},dp (λ x a=>bz.own w B x.1 x.2 a) ps l→(ps.map (·.2)).flatten=l.map sr∧∀ x∈l,dz x
 | [], [],_=>⟨rfl,by simp⟩
 | p::ps,a::l,h=>by
  obtain ⟨⟨_,κ,τ⟩,aq⟩:=h;obtain ⟨e,bl⟩:=Z4 aq;refine ⟨by rw [aNc,aNr,e,κ];rfl,λ x hx=> ?_⟩;rcases aMN.1 hx with rfl | hx
  ·exact τ
  ·exact bl x hx
 | [],_::_,h=>h.elim
 | _::_, [],h=>h.elim
theorem ab4 {w:World}:∀ {l:List Int},(∀ x∈l,dz x)→dp (λ es a=>bz.has w es a) (l.map λ n=> [sr n]) l
 | [],_=>trivial
 | a::l,h=>⟨⟨rfl,h a aM5⟩,ab4 λ x hx=>h x (aMK _ hx)⟩
theorem apn (l:List Int):(l.map λ n=> [sr n]).flatten=l.map sr:=by
 induction l with
 | nil=>rfl
 | cons a l bu=>rw [aNc,aNr,bu];rfl
theorem atd (h:bz.aL 3 8 w B (Φ.ab (some ⟨g,0,none⟩)) (some ⟨g,0,none⟩) c l):
  ∃ cur:List Value,aO w g cur 3 (0,0)∧B≤g∧c≤maxLen∧cur.length=c∧l.length≤c∧cur.take l.length=l.map sr∧(∀ u∈cur,∃ n:Int,u= .int .i64 n)∧∀ x∈l,dz x:=by
 obtain ⟨af,ps,hf,hn,bl,ej⟩:=h;obtain ⟨e,dk⟩:=Z4 ej;rw [e] at bl;obtain ⟨_,τ⟩:=bl;rcases τ with ⟨τ,_⟩ | ⟨g',cap,cur,hv,aS,dN,BC,p9,hs,aC,av⟩
 ·cases τ
 ·injection hv with aR a6 cM
  injection aR with aR
  injection aR with aR
  subst aR cM;refine ⟨cur.toList,dN,aS,p9,by have hs:cur.size=c * 1:=hs;rw [aPf] at hs;simpa using hs,BC,by have aC:cur.toList.take (l.length * 1)=_:=aC;rwa [aPf] at aC,λ u hu=> ?_,dk⟩;obtain ⟨j,aw,rfl⟩:=aNu.1 hu;exact av j _ (by rw [← aNw,aMy aw])
theorem atc {cur:List Value} (h:aO w g cur 3 (0,0)) (aS:B≤g) (p9:c≤maxLen) (hs:cur.length=c) (hn:l.length≤c) (af:l.length * 8≤140737488355328) (aC:cur.take l.length=l.map sr) (av:∀ u∈cur,∃ n:Int,u= .int .i64 n) (dk:∀ x∈l,dz x):
  bz.aL 3 8 w B (Φ.ab (some ⟨g,0,none⟩)) (some ⟨g,0,none⟩) c l:=by
 refine Φ.aL.GB Φ.q9 (ab4 dk) af ?_;rw [apn];refine ⟨by rw [aNf];exact (aPf _).symm, .inr ⟨g,c,cur.toArray,rfl,aS,h,hn,p9,by rw [aNV,hs];exact (aPf _).symm, ?_,λ j u hu=> ?_⟩⟩
 ·show cur.toArray.toList.take (l.length * 1)=_;rw [aPf];exact aC
 ·exact av u (by rw [aPu] at hu;exact aNi hu)
def yH (cur:List Value):Nat→List Value→List Value
 | _, []=>cur
 | o,v::r=>yH (cur.set o v) (o+1) r
theorem aO.setCells {g:Nat} {e:TypeId}:∀ (zs:List Value) (o:Nat) (w:World) (cur:List Value),aO w g cur e (0,0)→aO (w.setCells g o zs) g (yH cur o zs) e (0,0)
 | [],_,_,_,h=>h
 | v::r,o,w,cur,h=>aO.setCells r (o+1) _ _ (h.set o v)
theorem afO:∀ (zs:List Value) (o:Nat) (cur:List Value),o+zs.length≤cur.length→yH cur o zs=cur.take o++zs++cur.drop (o+zs.length)
 | [],o,cur,_=>by simp [yH]
 | v::r,o,cur,h=>by
  rw [aMw] at h;rw [yH,afO r (o+1) _ (by rw [aMM];omega),aMw,List.drop_set_of_lt (by omega),show o+1+r.length=o+(r.length+1) by omega];have:(cur.set o v).take (o+1)=cur.take o++ [v]:=by
   rw [aMW (by rw [aMM];omega),aQU (aMO _),List.getElem_set_self]
  rw [this];simp
theorem afQ {u:Value}:∀ (zs:List Value) (o:Nat) (cur:List Value),u∈yH cur o zs→u∈cur∨u∈zs
 | [],_,_,h=> .inl h
 | v::r,o,cur,h=>by
  rcases afQ r (o+1) _ h with h | h
  ·rcases aOb h with h | rfl
   ·exact .inl h
   ·exact .inr aM5
  ·exact .inr (aMK _ h)
theorem afP:∀ (zs:List Value) (o:Nat) (cur:List Value),(yH cur o zs).length=cur.length
 | [],_,_=>rfl
 | v::r,o,cur=>by rw [yH,afP r,aMM]
theorem aes {u:Value} (h:u∈l.map sr):∃ n:Int,u= .int .i64 n:=by
 obtain ⟨n,_,rfl⟩:=aMT.1 h;exact ⟨n,Z⟩
theorem awu:∀ v∈l.map sr,v.oneCell'=true:=λ v hv=>by obtain ⟨n,rfl⟩:=aes hv;rfl
theorem Mod.cells (g:Nat):∀ (zs:List Value) (o:Nat) (w:World),Mod [g] w (w.setCells g o zs)
 | [],_,w=>Mod.aP (Ext.bM w)
 | v::r,o,w=>by
  rw [World.setCells];exact (Mod.setCell w ⟨g,o,none⟩ v).trans (Mod.cells g r (o+1) _)
end
section
variable {w:World} {ty:TypeId} {pos:String} {aW:Array Edge} {x:Operand} {k lo c b j:Nat} {v u:Int}
theorem Mu {P:Program} {E:List (Nat×Value)} {d:Option Nat} {g:Option (Nat×Bool)} {src dst:TypeId} {k k':IntKind} {i r:Int} (hr:∀ w,(convert src dst (.int k i)).run P w= .ok (.int k' (k'.wrap i)) w) (h:k'.wrap i=r) (hx:ev E x=some (.int k i)):
  cF P E ⟨d, .convert src dst x,ty,pos,aW,g⟩ w (.int k' r) w:=λ n a ha=>by
 subst h;simp only [execOp,ha.ev hx,aML,hr w,aMG,aMP]
theorem azl {cur:List Value} {zs:List Value} (h:lo+zs.length≤k) (aj:k≤cur.length):(yH cur lo zs).take k=(cur.take k).take lo++zs++(cur.take k).drop (lo+zs.length):=by
 rw [afO _ _ _ (by omega)];have κ:(cur.take lo++zs).length=lo+zs.length:=by rw [aMB,aME];omega
 rw [aQa,κ,aMU (by rw [κ];exact h),List.take_take,aO0 (by omega),List.drop_take]
theorem Yu {n:Nat} {E:List (Nat×Value)} {Q:Exit→Act→World→Prop} {ops:Array Oper} {y:Operand} {rest:List Oper} {az dl Rg sl sc d:Nat} {A D S:Option Addr} {OT:Addr} {l zs:List Int}
  (h:bz.aL 3 8 w az (Φ.ab A) A c l) (hA:A=some ⟨b,0,none⟩) (hx:ev E x=some (.slice D dl Rg)) (mM:D=some ⟨b,lo,none⟩) (aH:ev E y=some (.slice S sl sc)) (hS:S=some OT) (Tz:∀ (j:Nat) (v:Int),zs[j]? =some v→w.cell? (OT.add j)=some (γ v)) (bo:∀ v∈zs,dz v)
  (hm:zs.length=Nat.min sl dl) (hle:lo+zs.length≤l.length) (NA:Nat.blt d n=true)
  (aj:∀ aM,Mod (Φ.ab A) w aM→bz.aL 3 8 aM az (Φ.ab A) A c (l.take lo++zs++l.drop (lo+zs.length))→bO prog n ops Q rest ((d,γ (zs.length:Int))::E) aM):
  bO prog n ops Q (⟨some d, .call {callee:= .builtin .copy,args:=#[x,y],argTypes:=#[46, 46]},ty,pos,aW,none⟩::rest) E w:=λ a ha=>by
 subst hA mM hS;obtain ⟨cur,κ,τ,aq,bb,bT,cy,ec,ft⟩:=atd h;have yk:(zs.map sr).length=zs.length:=aNf _;have kC:(Builtin.copy_ #[46, 46] ty #[.slice (some ⟨b,lo,none⟩) dl Rg, .slice (some OT) sl sc]).run prog w= .ok (goInt (zs.map sr).length) (w.setCells b lo (zs.map sr)):=
  run_copy_cells w _ _ ty 3 b lo dl Rg OT sl sc (zs.map sr) underlying46 (by
    obtain ⟨i0,jK,BI,rj,wg⟩:=aP7 wj;rw [jK];simp [rj]) (by rw [yk];exact hm)
   (λ j v aw=>by
    rw [aMX] at aw;cases hv:zs[j]? with
    | none=>rw [hv] at aw;cases aw
    | some u=>rw [hv] at aw;rw [← aMJ aw];exact Tz j u hv)
   (λ j aw=>by rw [yk] at aw;rw [κ.cell,aMy (by omega)];rfl) (λ j _=>h.free _) awu
 refine xL Z ?_;unfold Oper.wp execOp;simp only [resolve,invoke,builtin,aML,aMP,aMG,aQb,aNc,aNP,ha.ev hx,ha.ev aH,kC];rw [yk];refine aj _ (Mod.cells b _ _ _) (atc (cur:=yH cur lo (zs.map sr)) (aO.setCells _ _ _ _ κ) τ aq (by rw [afP];exact bb) ?_ ?_ ?_ ?_ ?_) _ (ha.put NA _)
 ·have:(l.take lo++zs++l.drop (lo+zs.length)).length=l.length:=by rw [aMB,aMB,aME,aM9];omega
  rw [this];exact bT
 ·have:(l.take lo++zs++l.drop (lo+zs.length)).length=l.length:=by rw [aMB,aMB,aME,aM9];omega
  rw [this];obtain ⟨af,_⟩:=h;exact af
 ·have:(l.take lo++zs++l.drop (lo+zs.length)).length=l.length:=by rw [aMB,aMB,aME,aM9];omega
  rw [this,azl (by rw [yk];exact hle) (by omega),cy,yk,aM0,aM0,aQy,List.map_drop]
 ·intro u hu;rcases afQ _ _ _ hu with hu | hu
  ·exact ec u hu
  ·exact aes hu
 ·intro u hu;rcases aMQ.1 hu with hu | hu
  ·rcases aMQ.1 hu with hu | hu
   ·exact ft u (aOX hu)
   ·exact bo u hu
  ·exact ft u (aQR hu)
theorem ayo (h:lo<c):ez (a_ b) c lo 1=some ⟨b,lo,none⟩:=by
 unfold ez;rw [aMA (by omega)];show some (Addr.add _ _)=_;unfold Addr.add;split
 ·have:lo=0:=by omega
  subst this;rfl
 ·simp
theorem ayg {N:Nat} (aB:0<k) (κ:k<N):(List.replicate k v++List.replicate (N - k) (0:Int)).take k++List.replicate (Nat.min k (N - k)) v++(List.replicate k v++List.replicate (N - k) (0:Int)).drop (k+(List.replicate (Nat.min k (N - k)) v).length)=List.replicate (k+Nat.min k (N - k)) v++List.replicate (N - (k+Nat.min k (N - k))) (0:Int):=by
 rw [aQh (by rw [aM2];exact aMO _),aMU (by rw [aM2];exact aMO _),aM2,List.drop_append,aM2,aQI (by rw [aM2];omega),aN4,aQX,List.replicate_append_replicate];congr 2;omega
theorem agH {x:Int} (aB:0≤x) (κ:x<18446744073709551616):IntKind.u64.wrap x=x:=by rw [IntKind.wrap_u64];omega
theorem ay3 {X:Option Addr} {A':Nat} (Bt:bz.aQ 8 w X A' [v]) (aw: [v][j]? =some u):w.cell? ((⟨et X,jO X,none⟩:Addr).add j)=some (γ u):=by
 obtain ⟨b,o,rfl,hc⟩:=D_ Bt (by simp);rw [show (⟨et (some ⟨b,o,none⟩),jO (some ⟨b,o,none⟩),none⟩:Addr)=⟨b,o,none⟩ from rfl,H5];exact hc j u aw
theorem ay4 {N:Nat} (h:bz.aQ 8 w (a_ b) c (List.replicate k v++List.replicate (N - k) (0:Int))) (aB:0<k) (aw:(List.replicate (Nat.min k (N - k)) v)[j]? =some u):w.cell? ((⟨b,0,none⟩:Addr).add j)=some (γ u):=by
 obtain ⟨vx,o,e,hc⟩:=D_ h (by rw [aMB,aM2];omega);have e:=aMJ e;injection e with aR a6
 subst aR;subst a6;rw [H5];have bB:=(aMx.1 aw).1;rw [aM2] at bB;have hm:Nat.min k (N - k)≤k:=Nat.min_le_left _ _;have hu:u=v:=by rw [aN3] at aw;split at aw<;>simp_all
 refine hc j u ?_;rw [aMZ (by rw [aM2];omega),aN3,aMI (by omega),hu]
theorem afw (X:Option Addr) (A' N:Nat) (v:Int) (w:World) (Bt:bz.aQ 8 w X A' [v]) (aB:0<N) (mN:N≤1000000):
  Calls prog 123 #[.slice X 1 A',γ (N:Int)] w (λ e w'=>∃ A c,e= .returned (.slice A (List.replicate N v).length c)∧bz.aL 3 8 w' w.heap.size (Φ.ab A) A c (List.replicate N v)∧Ext w w'):=by
 have NQ:=ax6 Bt;have ash:=NQ v (aMu.2 rfl);refine cx (n:=48) func123 Z Z Z ?_;refine aG<|aU Z<|aI<|aN Z<|fI Z Z<|aJ<| ?_;have pb:(decide ((N:Int)<0))=false:=by (first | exact aMY (by omega) | simp only [aMC];omega | (rw [aNj];exact ⟨by decide,aMY (by omega)⟩))
 refine hL (by rw [← pb];rfl)<|bF<|aN Z<|aa (dC underlying46 Z)<|aa (Mu (r:=(1:Int)) (λ _=>by kernel_rfl) (agH (by omega) (by omega)) Z)<|vm Z<|aa (Mu (r:=(N:Int)) (λ _=>by kernel_rfl) (agH (by omega) (by omega)) Z)<|de aoG Z (mul_one N (by omega) _) λ xb bm=> ?_;have:=bm.size;refine vm Z<|b2 Z Z<|b2 Z Z<|va Z<|aU Z<|aI<|aN Z<|aa (iv Z Z)<|vm Z<|jR Z Z Z<|vm Z<|jR Z Z Z<|aa (iv Z Z)<|aa (pn Z Z)<|aJ<| ?_;have SL:(decide (9223372036854775807<(N:Int)))=false:=by (first | exact aMY (by omega) | simp only [aMC];omega | (rw [aNj];exact ⟨by decide,aMY (by omega)⟩))
 refine hL (by rw [← SL];rfl)<|bF<|aN Z<|aa (Mu (r:=(N:Int)) (λ _=>by kernel_rfl) fN Z)<|DL (R:=bz) (by_:=8) (B:=w.heap.size) (c:=N) (zv:=(γ 0)) (q:=0) Φ.q9 underlying46 wj Z Z (λ j u h=>Ak j u h) (λ _=>⟨Z,cH.2 (by decide)⟩) Z Z Z (by omega) (by omega) (by omega) λ agR CT oX aId ajI=> ?_;have EF:=J bm oX;refine aU Z<|aN Z<|vm Z<|Yu (zs:= [v]) (lo:=0) ajI Z Z Z Z (Bt.bx (by simp)) (λ j u aw=>ay3 (Bt.keep EF) aw) NQ (by rw [aOR];exact (aO0 (by omega)).symm) (by rw [aM2];simp;omega) Z λ yP T_ LP=> ?_;have LP:bz.aL 3 8 yP w.heap.size (Φ.ab (a_ CT)) (a_ CT) N (List.replicate 1 v++List.replicate (N - 1) (0:Int)):=by have h:=LP;rw [List.take_zero,aN4,aOR,aQX] at h;exact h
 have mC:=Ext.mod EF T_ (λ q I=>by have:=(LP.lt q I).1;omega);refine aU Z<|aI<|bV<| ?_;refine gh (λ cL cw aV=>∃ k:Nat,cw= [(4, .slice none 0 0),(7, .slice (a_ CT) N N),(8,γ (k:Int))]∧cL=N - k∧Ext w aV∧bz.aL 3 8 aV w.heap.size (Φ.ab (a_ CT)) (a_ CT) N (List.replicate k v++List.replicate (N - k) (0:Int))∧(0<k)∧(k≤N)) _ _ ⟨1,Z,Z,mC,LP,by omega,by omega⟩ (ib Z) ?_;rintro aek aC1 Eh ⟨k,rfl,rfl,oY,Qy,sB,aFX⟩;refine aI<|aN Z<|vm Z<|aa (dC underlying46 Z)<|fI Z Z<|aJ<| ?_;refine fM Z (λ vL=> ?_) (λ vL=> ?_)
 ·refine bF<|bV<| ?_;refine du [(7,3)] [0,1,2,3,4,5,6,7,8,9] ?_;refine bn Z Z<|bn Z Z<|bn Z Z<|ax Z (λ _=>afG k underlying46 cr Z Z Z (by omega))<|bn Z Z<|bn Z Z<|ax Z (λ _=>UN k k underlying46 cr Z Z Z (by omega) Z)<|dA Z Z Z λ uk il Q hK=>Yu (zs:=List.replicate (Nat.min k (N - k)) v) (lo:=k) (Qy.later il) Z Z (ayo (by omega)) Z Z (λ j u aw=>ay4 (N:=N) (Qy.later il).has sB aw) (λ y aH=>by rw [List.eq_of_mem_replicate aH];exact ash) (by rw [aM2]) (by rw [aM2,aMB,aM2,aM2];have:Nat.min k (N - k)≤N - k:=aPl _ _;omega) Z λ yS DS EX=>hK _ _ ?_;have ka:=J oY il;have EX:bz.aL 3 8 yS w.heap.size (Φ.ab (a_ CT)) (a_ CT) N (List.replicate (k+Nat.min k (N - k)) v++List.replicate (N - (k+Nat.min k (N - k))) (0:Int)):=by have h:=EX;rw [ayg sB (by omega)] at h;exact h
  have lY:=Ext.mod ka DS (λ q I=>by have:=(EX.lt q I).1;omega);have yk:(List.replicate (Nat.min k (N - k)) v).length=Nat.min k (N - k):=aM2;rw [yk];refine ax Z (λ _=>bad Z Z (la ((by have:Nat.min k (N - k)≤N - k:=aPl _ _;omega))))<|ax Z (λ _=>eQ Z)<|fn λ Au eK=> ?_;have jd:=J lY eK;refine cm<| ?_;have EX:=EX.later eK;exact lM _ _ ⟨(k+Nat.min k (N - k)),Z,Z,jd,EX,by have:0<Nat.min k (N - k):=Nat.lt_min.2 ⟨sB,by omega⟩;omega,by have:Nat.min k (N - k)≤N - k:=aPl _ _;omega⟩ (by have:0<Nat.min k (N - k):=Nat.lt_min.2 ⟨sB,by omega⟩;have:Nat.min k (N - k)≤N - k:=aPl _ _;omega) (.cons Z (.cons Z (.cons (BJ Z (by omega)) .nil)))
 ·refine er<|ep<|eY<|eo<|br<|aN Z<|bL Z<|c' Z Z<| ?_;obtain rfl:k=N:=by omega
  exact ⟨_,_,by rw [aM2];rfl,by have h:=Qy;rw [Nat.sub_self,List.replicate_zero,aM4] at h;exact h,oY⟩
end
theorem axi (f:au) (a b:ai) (P:Option Addr) (cu:Nat) (w:World) (bJ:bz.aQ 8 w P cu f.places) (he:f.cG a≠0):
  Calls prog 90 #[.agg #[γ f.wide,γ f.high, .slice P f.places.length cu], .agg #[γ a.x,γ a.y], .agg #[γ b.x,γ b.y]] w (λ e w'=>e= .returned (.tuple #[.pointer none,γ (f.cG a)])∧Ext w w'):=by
 have dt:(f.cG a != 0)=true:=by simpa using he
 refine cx (n:=61) func90 Z Z Z ?_;refine eW Z Z λ dn bw bm fO ag=> ?_;refine jk Z Z λ fP dI bD j8 aF=> ?_;have b7:=J bm bD;refine jk Z Z λ iM iT b3 rm bI=> ?_;have c1:=J b7 b3;refine va Z<|aU Z<|aG<| ?_;have ag:=ag.later (J bD b3);refine aa (aA Z (ag.all gZ gy))<| ?_;have aF:=aF.later b3;refine aa (aA Z (aF.all b0 bs))<|de o8 Z (p2 f a _ _ _ (bJ.keep c1)) λ qF eC=> ?_;have gR:=J c1 eC;refine vm Z<|b2 Z Z<|b2 Z Z<|va Z<|aU Z<|aI<|aN Z<|gJ Z Z<|aJ<|gX (gl Z dt)<|aN Z<|va Z<|bL Z<|cW<| ?_;refine hl Z Z Z<| ?_;exact ⟨Z,gR⟩
theorem axj (f:au) (a b:ai) (P:Option Addr) (cu:Nat) (w:World) (bJ:bz.aQ 8 w P cu f.places) (NH:f.cG a=0) (he:f.cG b≠0):
  Calls prog 90 #[.agg #[γ f.wide,γ f.high, .slice P f.places.length cu], .agg #[γ a.x,γ a.y], .agg #[γ b.x,γ b.y]] w (λ e w'=>e= .returned (.tuple #[.pointer none,γ (f.cG b)])∧Ext w w'):=by
 have dt:(f.cG a != 0)=false:=by simpa using NH
 have ey:(f.cG b != 0)=true:=by simpa using he
 refine cx (n:=61) func90 Z Z Z ?_;refine eW Z Z λ dn bw bm fO ag=> ?_;refine jk Z Z λ fP dI bD j8 aF=> ?_;have b7:=J bm bD;refine jk Z Z λ iM iT b3 rm bI=> ?_;have c1:=J b7 b3;refine va Z<|aU Z<|aG<| ?_;have ag:=ag.later (J bD b3);refine aa (aA Z (ag.all gZ gy))<| ?_;have aF:=aF.later b3;refine aa (aA Z (aF.all b0 bs))<|de o8 Z (p2 f a _ _ _ (bJ.keep c1)) λ qF eC=> ?_;have gR:=J c1 eC;refine vm Z<|b2 Z Z<|b2 Z Z<|va Z<|aU Z<|aI<|aN Z<|gJ Z Z<|aJ<|hL (gl Z dt)<|bF<|aG<| ?_;have ag:=ag.later eC;refine aa (aA Z (ag.all gZ gy))<| ?_;have bI:=bI.later eC;refine aa (aA Z (bI.all b0 bs))<|de o8 Z (p2 f b _ _ _ (bJ.keep gR)) λ yR dS=> ?_;have lq:=J gR dS;refine vm Z<|b2 Z Z<|b2 Z Z<|va Z<|aU Z<|aI<|aN Z<|gJ Z Z<|aJ<|gX (gl Z ey)<|aN Z<|va Z<|bL Z<|cW<| ?_;refine hl Z Z Z<| ?_;exact ⟨Z,lq⟩
theorem axk (f:au) (a b:ai) (P:Option Addr) (cu:Nat) (w:World) (bJ:bz.aQ 8 w P cu f.places) (NH:f.cG a=0) (abd:f.cG b=0) (he:f.place a=1∨f.place b=1):
  Calls prog 90 #[.agg #[γ f.wide,γ f.high, .slice P f.places.length cu], .agg #[γ a.x,γ a.y], .agg #[γ b.x,γ b.y]] w (λ e w'=>e= .returned (.tuple #[.pointer none,γ 9])∧Ext w w'):=by
 have dt:(f.cG a != 0)=false:=by simpa using NH
 have ey:(f.cG b != 0)=false:=by simpa using abd
 have ju:((f.l6 a == 1) || (f.l6 b == 1))=true:=by obtain ⟨hf,JE⟩:=Ma NH;obtain ⟨_,TK⟩:=Ma abd;rw [(au.k6 hf JE).2,(au.k6 hf TK).2];simpa using he
 refine cx (n:=61) func90 Z Z Z ?_;refine eW Z Z λ dn bw bm fO ag=> ?_;refine jk Z Z λ fP dI bD j8 aF=> ?_;have b7:=J bm bD;refine jk Z Z λ iM iT b3 rm bI=> ?_;have c1:=J b7 b3;refine va Z<|aU Z<|aG<| ?_;have ag:=ag.later (J bD b3);refine aa (aA Z (ag.all gZ gy))<| ?_;have aF:=aF.later b3;refine aa (aA Z (aF.all b0 bs))<|de o8 Z (p2 f a _ _ _ (bJ.keep c1)) λ qF eC=> ?_;have gR:=J c1 eC;refine vm Z<|b2 Z Z<|b2 Z Z<|va Z<|aU Z<|aI<|aN Z<|gJ Z Z<|aJ<|hL (gl Z dt)<|bF<|aG<| ?_;have ag:=ag.later eC;refine aa (aA Z (ag.all gZ gy))<| ?_;have bI:=bI.later eC;refine aa (aA Z (bI.all b0 bs))<|de o8 Z (p2 f b _ _ _ (bJ.keep gR)) λ yR dS=> ?_;have lq:=J gR dS;refine vm Z<|b2 Z Z<|b2 Z Z<|va Z<|aU Z<|aI<|aN Z<|gJ Z Z<|aJ<|hL (gl Z ey)<|bF<|aI<|aN Z<|aa (beq Z Z)<|vm Z<|gw Z Z<| ?_;refine cb Z (λ hc=>beq (gt hc Z) Z)<|aa (gq Z Z Z Z)<|aJ<|gX (gl Z ju)<|aG<|va Z<|bL Z<|cW<|hl Z Z Z<| ?_;exact ⟨Z,lq⟩
theorem axm (f:au) (a b:ai) (P:Option Addr) (cu:Nat) (w:World) (bJ:bz.aQ 8 w P cu f.places) (hf:f.a7=0) (ga:f.ground a=true) (tx:f.ground b=true) (kB:cE f a b b<0):
  Calls prog 90 #[.agg #[γ f.wide,γ f.high, .slice P f.places.length cu], .agg #[γ a.x,γ a.y], .agg #[γ b.x,γ b.y]] w (λ e w'=>(∃ far,mG f a b far)∧e= .returned (.tuple #[.pointer none,γ 6])∧Ext w w'):=by
 obtain ⟨g1,g2,g3,g4,g5,g6⟩:=au.g_ hf;have abq:=au.km hf;have z1:=au.jn ga;have k8:=au.jn tx;obtain ⟨_,_,cV,a2,a3,a4⟩:=au.idx hf z1;obtain ⟨_,_,qX,e_,gD,CR⟩:=au.idx hf k8;have S_:=(au.k6 hf z1).1;have Ta:=(au.k6 hf k8).1;have TE:=(au.k6 hf z1).2;have TF:=(au.k6 hf k8).2;have Tu:=au.Bq ga;have Tv:=au.Bq tx;have BE:0<f.places.length:=by have:=(au.xN hf z1).1;omega
 have TS:(f.cG a != 0)=false:=by rw [S_];rfl
 have TT:(f.cG b != 0)=false:=by rw [Ta];rfl
 have TW:(f.l6 a == 1)=false:=by rw [TE];simpa using Tu
 have TX:(f.l6 b == 1)=false:=by rw [TF];simpa using Tv
 have TU:decide (cE f a b b<0)=true:=aMV kB;refine cx (n:=61) func90 Z Z Z ?_;refine eW Z Z λ dn bw bm fO ag=> ?_;have ja:=ag.lt;refine jk Z Z λ fP dI bD j8 aF=> ?_;have b7:=J bm bD;have qx:=aF.lt;refine jk Z Z λ iM iT b3 rm bI=> ?_;have c1:=J b7 b3;have yF:=bI.lt;refine va Z<|aU Z<|aG<| ?_;have ag:=ag.later (J bD b3);refine aa (aA Z (ag.all gZ gy))<| ?_;have aF:=aF.later b3;refine aa (aA Z (aF.all b0 bs))<|de o8 Z (p2 f a _ _ _ (bJ.keep c1)) λ qF eC=> ?_;have:=eC.size;have gR:=J c1 eC;refine vm Z<|b2 Z Z<|b2 Z Z<|va Z<|aU Z<|aI<|aN Z<|gJ Z Z<|aJ<|hL (gl Z TS)<|bF<|aG<| ?_;have ag:=ag.later eC;refine aa (aA Z (ag.all gZ gy))<| ?_;have bI:=bI.later eC;refine aa (aA Z (bI.all b0 bs))<|de o8 Z (p2 f b _ _ _ (bJ.keep gR)) λ yR dS=> ?_;have:=dS.size;have lq:=J gR dS;refine vm Z<|b2 Z Z<|b2 Z Z<|va Z<|aU Z<|aI<|aN Z<|gJ Z Z<|aJ<|hL (gl Z TT)<|bF<|aI<|aN Z<|aa (beq Z Z)<|vm (gl Z TW)<|jR Z Z Z<| ?_;refine vm Z<|jR Z Z Z<|aa (beq Z Z)<|aa (pn Z (gl Z TX))<|aJ<|hL Z<|bF<|aI<| ?_;refine du [(0,0),(1,0),(2,2),(4,0),(6,2),(8,2)] [0,1,3,4,5,2,6,7,8,9] ?_;have ag:=ag.later dS;refine cR Z (λ _ x=>aA Z ((ag.later x).all gZ gy))<| ?_;have bI:=bI.later dS;refine cR Z (λ _ x=>aA Z ((bI.later x).all b0 bs))<|ax Z (λ _=>ar tu Z)<|cO Z Z ag fC Z<|ax Z (λ _=>dC underlying46 Z)<|fS Z Z Z λ Ej jA Q hK=>b9 (e:= 3) (cs:= [γ (-1)]) Z (λ _=>by kernel_rfl) Z λ KM XX eK adD xC=>hK _ _ ⟨J jA eK, ?_⟩;have:=jA.size;have ni:=J lq jA;have sU:=J ni eK;have afg:=xC.lt;refine fS Z Z Z λ G2 jC Q hK=>ca ZQ Z Z ((afw _ _ f.places.length (-1) _ (aO.fu (R:=bz) (by_:=8) (q:= -1) (xC.later jC) ⟨Z,cH.2 (by decide)⟩ (by decide)) BE (by omega)).mono ?_);rintro e El ⟨s3,xQ,rfl,lx,fy⟩;refine ⟨_,Z,hK _ _ ⟨J jC fy, ?_⟩⟩;have:=jC.size;have EE:=J sU jC;have:=fy.size;have o0:=J EE fy;have wX:=bY lx.lt;have wk:=dJ lx.lt;have lx:=lx.down (show w.heap.size≤G2.heap.size by omega);refine ki (v:= .agg #[γ f.wide,γ f.high, .slice P f.places.length cu,γ b.x,γ b.y, .slice s3 ((List.replicate f.places.length (-1)).length) xQ, .slice none 0 0]) Z Z (λ _=>gO Z (by kernel_rfl)) Z<|fS Z Z Z λ xe di Q hK=>jk Z Z λ KN zu hG adG s0=>hK _ _ ⟨J di hG, ?_⟩;have:=di.size;have k2:=J o0 di;have xr:=J k2 hG;have Uw:=s0.lt;refine ax Z (λ _=>eQ Z)<|fn λ um fl=> ?_;have:=fl.size;have jU:=J xr fl;refine br<|aN Z<| ?_;have aF:=aF.later (J eC (J dS (J jA (J eK (J jC (J fy (J di (J hG fl))))))));refine aa (aA Z (aF.all b0 bs))<| ?_;have s0:=s0.later fl;have lx:=lx.later (J di (J hG fl));have Qj:b4.rep.aL 225 32 um w.heap.size (Φ.ab none) none 0 ([]:List b4):=Φ.aL.nil _;refine ca RD Z Z ((Ut w f P s3 none cu xQ 0 zu ((List.replicate f.places.length (-1))) ([]:List b4) b a 0 _ jU hf bJ s0 (by omega) Qj (λ q I=>by simp [Φ.ab] at I) (λ y aH=>by simp at aH) (by simp) (by omega) (by omega) (by omega)).mono ?_);rintro e Eo ⟨cc,bd,rfl,iE,nv,S8,Bx,DZ⟩;refine cK ?_;have pJ:=Ext.mod jU DZ (λ q I=>(aMN.1 I).elim (λ h=>by omega) (λ h=>by simp [Φ.ab] at h));have rp:∀ q∈Φ.ab cc,um.heap.size≤q:=λ q I=>(Bx q I).elim (λ h=>by simp [Φ.ab] at h) id;refine aJ<|aN Z<| ?_;have lx:=lx.mod DZ (λ q I h=>(aMN.1 h).elim (λ h=>by exfalso;(have:=wX q I;omega)) (λ h=>by simp [Φ.ab] at h));refine ca ZR Z Z ((ae8 w f P s3 cc cu xQ bd zu ((List.replicate f.places.length (-1))) (cj.push b4.all ([]:List b4) ⟨a,0,0+au.iW b a⟩) b a a _ pJ hf bJ iE (by omega) lx nv (λ q I af=>by exfalso;(have:=wX q I;omega)) S8 (λ q κ τ=>by exfalso;(have:=rp q κ;(have:=wX q τ;omega))) (qT.start hf ga a) vu.start k8 (by rw [cj.Kj,Vn];simp;omega)).mono ?_);rintro e VD ⟨far,cz,bP,iJ,rfl,gC,ho,hZ,lK⟩;refine cK ?_;have uM:=Ext.mod pJ lK (λ q I=>(aMN.1 I).elim (λ h=>by omega) (λ h=>(aMQ.1 h).elim (λ h=>(lx.lt q h).1) (λ h=>(nv.lt q h).1)));have rf:=iY hf hZ.len k8;refine aJ<|aI<|aI<| ?_;refine du [(3,0),(5,0),(6,0),(8,0)] [0,1,2,3,4,5,6,7,8,9] ?_;refine bn Z Z<|ax Z (λ _=>b1 Z)<|ax Z (λ _=>ar nD Z)<|cO Z Z gC fC Z<|bn Z Z<| ?_;have bI:=((bI.later (J jA (J eK (J jC (J fy (J di (J hG fl))))))).mod DZ (λ I=>(aMN.1 I).elim (λ h=>by omega) (λ h=>by simp [Φ.ab] at h))).mod lK (λ I=>(aMN.1 I).elim (λ h=>by omega) (λ h=>(aMQ.1 h).elim (λ h=>(show ∀ q,q∈Φ.ab s3→q=iT→False from λ q h af=>by (have:=wk q h;omega)) _ h rfl) (λ h=>(show ∀ q,q∈Φ.ab cc→q=iT→False from λ q h af=>by (have:=rp q h;omega)) _ h rfl)));refine cR Z (λ _ x=>aA Z ((bI.later x).all b0 bs))<|q8 Z Z lG Z (λ _ x=>qw w f P s3 cz cu xQ bP zu far iJ b b _ (J uM x) hf bJ (gC.later x) (by first | omega | (dsimp only;omega))) Z<|ax Z (λ _=>bX ((b.y * f.wide+b.x).toNat) underlying46 cr Z Z (ho.has.bx (a1 ((b.y * f.wide+b.x).toNat) (by have ra:=rf.1;omega))) (by omega) (by have ra:=rf.1;omega))<|cR Z (λ _ x=>aA Z (Φ.aQ.dm dy ((ho.later x).has.ck (a1 ((b.y * f.wide+b.x).toNat) (by have ra:=rf.1;omega))) (hZ.get hf k8) Z aZ))<|ax Z (λ _=>blt Z Z)<|fn λ KQ hT=> ?_;have xt:=J uM hT;refine br<|gX (gl Z TU)<|aG<|va Z<|bL Z<|cW<|hl Z Z Z<| ?_;have gC:=gC.later hT;have ho:=ho.later hT;exact ⟨⟨far,hZ⟩,Z,xt⟩
theorem axn (f:au) (a b:ai) (P:Option Addr) (cu:Nat) (w:World) (bJ:bz.aQ 8 w P cu f.places) (hf:f.a7=0) (ga:f.ground a=true) (tx:f.ground b=true) (kB:0≤cE f a b b):
  Calls prog 90 #[.agg #[γ f.wide,γ f.high, .slice P f.places.length cu], .agg #[γ a.x,γ a.y], .agg #[γ b.x,γ b.y]] w (λ e w'=>∃ p F A fa c far l,e= .returned (.tuple #[.pointer (a_ p),γ 0])∧mG f a b far∧aO w' p [γ f.wide,γ f.high, .slice P f.places.length cu,γ b.x,γ b.y, .slice F far.length fa, .slice A ((l:List b4).length) c] 163 (0,0)∧w.heap.size≤p∧bz.aL 3 8 w' w.heap.size (Φ.ab F) F fa far∧(∀ q∈Φ.ab F,q=p→False)∧Ext w w'):=by
 obtain ⟨g1,g2,g3,g4,g5,g6⟩:=au.g_ hf;have abq:=au.km hf;have z1:=au.jn ga;have k8:=au.jn tx;obtain ⟨_,_,cV,a2,a3,a4⟩:=au.idx hf z1;obtain ⟨_,_,qX,e_,gD,CR⟩:=au.idx hf k8;have S_:=(au.k6 hf z1).1;have Ta:=(au.k6 hf k8).1;have TE:=(au.k6 hf z1).2;have TF:=(au.k6 hf k8).2;have Tu:=au.Bq ga;have Tv:=au.Bq tx;have BE:0<f.places.length:=by have:=(au.xN hf z1).1;omega
 have TS:(f.cG a != 0)=false:=by rw [S_];rfl
 have TT:(f.cG b != 0)=false:=by rw [Ta];rfl
 have TW:(f.l6 a == 1)=false:=by rw [TE];simpa using Tu
 have TX:(f.l6 b == 1)=false:=by rw [TF];simpa using Tv
 have TU:decide (cE f a b b<0)=false:=aMY (by omega);refine cx (n:=61) func90 Z Z Z ?_;refine eW Z Z λ dn bw bm fO ag=> ?_;have ja:=ag.lt;refine jk Z Z λ fP dI bD j8 aF=> ?_;have b7:=J bm bD;have qx:=aF.lt;refine jk Z Z λ iM iT b3 rm bI=> ?_;have c1:=J b7 b3;have yF:=bI.lt;refine va Z<|aU Z<|aG<| ?_;have ag:=ag.later (J bD b3);refine aa (aA Z (ag.all gZ gy))<| ?_;have aF:=aF.later b3;refine aa (aA Z (aF.all b0 bs))<|de o8 Z (p2 f a _ _ _ (bJ.keep c1)) λ qF eC=> ?_;have:=eC.size;have gR:=J c1 eC;refine vm Z<|b2 Z Z<|b2 Z Z<|va Z<|aU Z<|aI<|aN Z<|gJ Z Z<|aJ<|hL (gl Z TS)<|bF<|aG<| ?_;have ag:=ag.later eC;refine aa (aA Z (ag.all gZ gy))<| ?_;have bI:=bI.later eC;refine aa (aA Z (bI.all b0 bs))<|de o8 Z (p2 f b _ _ _ (bJ.keep gR)) λ yR dS=> ?_;have:=dS.size;have lq:=J gR dS;refine vm Z<|b2 Z Z<|b2 Z Z<|va Z<|aU Z<|aI<|aN Z<|gJ Z Z<|aJ<|hL (gl Z TT)<|bF<|aI<|aN Z<|aa (beq Z Z)<|vm (gl Z TW)<|jR Z Z Z<| ?_;refine vm Z<|jR Z Z Z<|aa (beq Z Z)<|aa (pn Z (gl Z TX))<|aJ<|hL Z<|bF<|aI<| ?_;refine du [(0,0),(1,0),(2,2),(4,0),(6,2),(8,2)] [0,1,3,4,5,2,6,7,8,9] ?_;have ag:=ag.later dS;refine cR Z (λ _ x=>aA Z ((ag.later x).all gZ gy))<| ?_;have bI:=bI.later dS;refine cR Z (λ _ x=>aA Z ((bI.later x).all b0 bs))<|ax Z (λ _=>ar tu Z)<|cO Z Z ag fC Z<|ax Z (λ _=>dC underlying46 Z)<|fS Z Z Z λ Ej jA Q hK=>b9 (e:= 3) (cs:= [γ (-1)]) Z (λ _=>by kernel_rfl) Z λ KM XX eK adD xC=>hK _ _ ⟨J jA eK, ?_⟩;have:=jA.size;have ni:=J lq jA;have sU:=J ni eK;have afg:=xC.lt;refine fS Z Z Z λ G2 jC Q hK=>ca ZQ Z Z ((afw _ _ f.places.length (-1) _ (aO.fu (R:=bz) (by_:=8) (q:= -1) (xC.later jC) ⟨Z,cH.2 (by decide)⟩ (by decide)) BE (by omega)).mono ?_);rintro e El ⟨s3,xQ,rfl,lx,fy⟩;refine ⟨_,Z,hK _ _ ⟨J jC fy, ?_⟩⟩;have:=jC.size;have EE:=J sU jC;have:=fy.size;have o0:=J EE fy;have wX:=bY lx.lt;have wk:=dJ lx.lt;have lx:=lx.down (show w.heap.size≤G2.heap.size by omega);refine ki (v:= .agg #[γ f.wide,γ f.high, .slice P f.places.length cu,γ b.x,γ b.y, .slice s3 ((List.replicate f.places.length (-1)).length) xQ, .slice none 0 0]) Z Z (λ _=>gO Z (by kernel_rfl)) Z<|fS Z Z Z λ xe di Q hK=>jk Z Z λ KN zu hG adG s0=>hK _ _ ⟨J di hG, ?_⟩;have:=di.size;have k2:=J o0 di;have xr:=J k2 hG;have Uw:=s0.lt;refine ax Z (λ _=>eQ Z)<|fn λ um fl=> ?_;have:=fl.size;have jU:=J xr fl;refine br<|aN Z<| ?_;have aF:=aF.later (J eC (J dS (J jA (J eK (J jC (J fy (J di (J hG fl))))))));refine aa (aA Z (aF.all b0 bs))<| ?_;have s0:=s0.later fl;have lx:=lx.later (J di (J hG fl));have Qj:b4.rep.aL 225 32 um w.heap.size (Φ.ab none) none 0 ([]:List b4):=Φ.aL.nil _;refine ca RD Z Z ((Ut w f P s3 none cu xQ 0 zu ((List.replicate f.places.length (-1))) ([]:List b4) b a 0 _ jU hf bJ s0 (by omega) Qj (λ q I=>by simp [Φ.ab] at I) (λ y aH=>by simp at aH) (by simp) (by omega) (by omega) (by omega)).mono ?_);rintro e Eo ⟨cc,bd,rfl,iE,nv,S8,Bx,DZ⟩;refine cK ?_;have pJ:=Ext.mod jU DZ (λ q I=>(aMN.1 I).elim (λ h=>by omega) (λ h=>by simp [Φ.ab] at h));have rp:∀ q∈Φ.ab cc,um.heap.size≤q:=λ q I=>(Bx q I).elim (λ h=>by simp [Φ.ab] at h) id;refine aJ<|aN Z<| ?_;have lx:=lx.mod DZ (λ q I h=>(aMN.1 h).elim (λ h=>by exfalso;(have:=wX q I;omega)) (λ h=>by simp [Φ.ab] at h));refine ca ZR Z Z ((ae8 w f P s3 cc cu xQ bd zu ((List.replicate f.places.length (-1))) (cj.push b4.all ([]:List b4) ⟨a,0,0+au.iW b a⟩) b a a _ pJ hf bJ iE (by omega) lx nv (λ q I af=>by exfalso;(have:=wX q I;omega)) S8 (λ q κ τ=>by exfalso;(have:=rp q κ;(have:=wX q τ;omega))) (qT.start hf ga a) vu.start k8 (by rw [cj.Kj,Vn];simp;omega)).mono ?_);rintro e VD ⟨far,cz,bP,iJ,rfl,gC,ho,hZ,lK⟩;refine cK ?_;have uM:=Ext.mod pJ lK (λ q I=>(aMN.1 I).elim (λ h=>by omega) (λ h=>(aMQ.1 h).elim (λ h=>(lx.lt q h).1) (λ h=>(nv.lt q h).1)));have rf:=iY hf hZ.len k8;refine aJ<|aI<|aI<| ?_;refine du [(3,0),(5,0),(6,0),(8,0)] [0,1,2,3,4,5,6,7,8,9] ?_;refine bn Z Z<|ax Z (λ _=>b1 Z)<|ax Z (λ _=>ar nD Z)<|cO Z Z gC fC Z<|bn Z Z<| ?_;have bI:=((bI.later (J jA (J eK (J jC (J fy (J di (J hG fl))))))).mod DZ (λ I=>(aMN.1 I).elim (λ h=>by omega) (λ h=>by simp [Φ.ab] at h))).mod lK (λ I=>(aMN.1 I).elim (λ h=>by omega) (λ h=>(aMQ.1 h).elim (λ h=>(show ∀ q,q∈Φ.ab s3→q=iT→False from λ q h af=>by (have:=wk q h;omega)) _ h rfl) (λ h=>(show ∀ q,q∈Φ.ab cc→q=iT→False from λ q h af=>by (have:=rp q h;omega)) _ h rfl)));refine cR Z (λ _ x=>aA Z ((bI.later x).all b0 bs))<|q8 Z Z lG Z (λ _ x=>qw w f P s3 cz cu xQ bP zu far iJ b b _ (J uM x) hf bJ (gC.later x) (by first | omega | (dsimp only;omega))) Z<|ax Z (λ _=>bX ((b.y * f.wide+b.x).toNat) underlying46 cr Z Z (ho.has.bx (a1 ((b.y * f.wide+b.x).toNat) (by have ra:=rf.1;omega))) (by omega) (by have ra:=rf.1;omega))<|cR Z (λ _ x=>aA Z (Φ.aQ.dm dy ((ho.later x).has.ck (a1 ((b.y * f.wide+b.x).toNat) (by have ra:=rf.1;omega))) (hZ.get hf k8) Z aZ))<|ax Z (λ _=>blt Z Z)<|fn λ KQ hT=> ?_;have xt:=J uM hT;refine br<|hL (gl Z TU)<|bF<|aN Z<|va Z<|bL Z<|hl Z Z Z<| ?_;have gC:=gC.later hT;have ho:=ho.later hT;exact ⟨zu,s3,cz,xQ,bP,far,iJ,Z,hZ,gC,by omega,ho,(λ q I af=>by exfalso;(have:=wX q I;omega)),xt⟩
theorem axl (f:au) (a b:ai) (P:Option Addr) (cu:Nat) (w:World) (bJ:bz.aQ 8 w P cu f.places) (h:eH f a b≠0):
  Calls prog 90 #[.agg #[γ f.wide,γ f.high, .slice P f.places.length cu], .agg #[γ a.x,γ a.y], .agg #[γ b.x,γ b.y]] w (λ e w'=>e= .returned (.tuple #[.pointer none,γ (eH f a b)])∧Ext w w'):=by
 rcases RR f a b with ⟨κ,τ⟩ | ⟨κ,τ,aq⟩ | ⟨κ,τ,aq,bb⟩ | ⟨κ,τ,aq,bb | bb⟩
 ·rw [τ];exact axi f a b P cu w bJ κ
 ·rw [aq];exact axj f a b P cu w bJ κ τ
 ·rw [bb];exact axk f a b P cu w bJ κ τ aq
 ·rw [bb.2];exact (axm f a b P cu w bJ κ τ aq bb.1).mono λ e w' h=>⟨h.2.1,h.2.2⟩
 ·exact absurd bb.2 h
section
namespace vr
section
variable {α:Type} [Inhabited α] {l:List α} {k i:Nat}
def jy (l:List α):Nat→List α
 | 0=>l
 | k+1=>cj.swp (jy l k) k (l.length - 1 - k)
theorem D':(jy l k).length=l.length:=by
 induction k with
 | zero=>rfl
 | succ k bu=>rw [jy,cj.lj,bu]
theorem ayl:∀ k,2 * k≤l.length+1→(jy l k).Perm l:=by
 intro k;induction k with
 | zero=>intro _;exact aQs _
 | succ k bu =>
  intro aj;rw [jy];exact (cj.B6 (by rw [D'];omega) (by rw [D'];omega)).trans (bu (by omega))
theorem ayk:∀ k,2 * k≤l.length→∀ i,i<l.length→(jy l k).getD i default=if i<k∨l.length - 1 - i<k then l.getD (l.length - 1 - i) default else l.getD i default:=by
 intro k;induction k with
 | zero=>intro _ i _;rw [aMA (by omega)];rfl
 | succ k bu =>
  intro aj i ak;have ay:=D' (l:=l) (k:=k);rw [jy,cj.B5 (by omega) (by omega)];by_cases aR:i=l.length - 1 - k
  ·rw [aMI aR,bu (by omega) k (by omega),aMA (by omega),aMI (by omega)];congr 1;omega
  ·rw [aMA aR];by_cases a6:i=k
   ·rw [aMI a6,bu (by omega) _ (by omega),aMA (by omega),aMI (by omega)];congr 1;omega
   ·rw [aMA a6,bu (by omega) i ak];by_cases cM:i<k∨l.length - 1 - i<k
    ·rw [aMI cM,aMI (by omega)]
    ·rw [aMA cM,aMA (by omega)]
theorem ayj (h:(l.length:Int) - 1≤2 * (k:Int)) (τ:2 * k≤l.length):jy l k=l.reverse:=by
 refine List.ext_getElem (by rw [D',aOi]) λ i κ aFv=> ?_;rw [D'] at κ;have aT:=ayk k τ i κ;rw [aQT];have e:(jy l k).getD i default=(jy l k)[i]'(by rw [D'];exact κ):=by rw [aMv,aMy];rfl
 rw [← e,aT];split
 ·rw [aMv,aMy (by omega)];rfl
 ·rw [aMv,aMy κ];have:l.length - 1 - i=i:=by omega
  simp only [aNx,this]
end
end vr
end
theorem ayd (A:Option Addr) (c az:Nat) (l:List ai) (w:World) (bc:ai.rep.aL 98 16 w az (Φ.ab A) A c (l)) (dk:∀ y∈l,y.ok):
  Calls prog 94 #[.slice A l.length c] w (λ e w'=>e= .returned (.tuple #[])∧ai.rep.aL 98 16 w' az (Φ.ab A) A c (l.reverse)∧Mod (Φ.ab A) w w'):=by
 have aF0:=bc.has.km;refine cx (n:=28) func94 Z Z Z ?_;refine aN Z<|aa (dC underlying49 Z)<|aa (iH Z Z fN)<|va Z<|aU Z<|bV<| ?_;refine gh (λ cL cw aV=>∃ k:Nat,∃ jj:Int,cw= [(0, .slice A l.length c),(2,γ (k:Int)),(3,γ jj)]∧cL=(l.length - k)∧Mod (Φ.ab A) w aV∧ai.rep.aL 98 16 aV az (Φ.ab A) A c (vr.jy l k)∧(jj=(l.length:Int) - 1 - (k:Int))∧(2 * k≤l.length)) _ _ ⟨0,((l.length:Int) - 1),Z,Z,(Mod.bM (Φ.ab A) w),bc,by omega,by omega⟩ (.cons Z (.cons (rp Z) (eV Z Z Z))) ?_;rintro wA Ht dn ⟨k,jj,rfl,rfl,dK,o3,ye,aj⟩;have aGa:(vr.jy l k).length=l.length:=vr.D';have abF:∀ y∈vr.jy l k,y.ok:=λ y aH=>dk y ((vr.ayl k (by omega)).subset aH);refine aI<|aN Z<|vm Z<|fI Z Z<|aJ<| ?_;refine fM Z (λ oo=> ?_) (λ oo=> ?_)
 ·refine bF<|aI<|bV<| ?_;refine du [(7,0),(11,0),(13,3),(15,3)] [0,1,2,3,4,5,6,7,8,9,10,11,12,13,14,15] ?_;refine bn Z Z<|bn Z Z<|bn Z Z<|bn Z Z<|bn Z Z<|bn Z Z<|ax Z (λ _=>bX jj.toNat underlying49 bs Z Z (o3.has.bx (a1 jj.toNat (by first | omega | (rw [aMM];omega)))) (by omega) (by first | omega | (rw [aMM];omega)))<|cR Z (λ _ x=>aA Z (Φ.aQ.jG vP ((o3.later x).has.ck (a1 jj.toNat (by first | omega | (rw [aMM];omega)))) (cl (l:=vr.jy l k) (u:=default) (by first | omega | (rw [aMM];omega))) b0 bs))<|bn Z Z<|bn Z Z<|ax Z (λ _=>bX k underlying49 bs Z Z (o3.has.bx (a1 k (by first | omega | (rw [aMM];omega)))) Z (by first | omega | (rw [aMM];omega)))<|cR Z (λ _ x=>aA Z (Φ.aQ.jG vP ((o3.later x).has.ck (a1 k (by first | omega | (rw [aMM];omega)))) (cl (l:=vr.jy l k) (u:=default) (by first | omega | (rw [aMM];omega))) b0 bs))<|ax Z (λ _=>bX k underlying49 bs Z Z (o3.has.bx (a1 k (by first | omega | (rw [aMM];omega)))) Z (by first | omega | (rw [aMM];omega)))<|dA Z Z Z λ G3 oX Q hK=>OW (q':=(vr.jy l k).getD jj.toNat default) (i:=k) (o3.later oX) Φ.cZ (by first | omega | (rw [aMM];omega)) Z Z Z Z (λ _=>⟨Z,(abF _ (mU (by omega)))⟩) bs λ uo aeh Xy=>hK _ _ ?_;have pK:=dK.trans (Mod.aP oX);have je:=pK.md aeh (λ q I=> .inl I);refine ax Z (λ _=>bX jj.toNat underlying49 bs Z Z (Xy.has.bx (a1 jj.toNat (by first | omega | (rw [aMM];omega)))) (by omega) (by first | omega | (rw [aMM];omega)))<|dA Z Z Z λ iM gB Q hK=>OW (q':=(vr.jy l k).getD k default) (i:=jj.toNat) (Xy.later gB) Φ.cZ (by first | omega | (rw [aMM];omega)) Z Z Z Z (λ _=>⟨Z,(abF _ (mU (by omega)))⟩) bs λ yQ Gv QE=>hK _ _ ?_;have c1:=je.trans (Mod.aP gB);have iu:=c1.md Gv (λ q I=> .inl I);refine fn λ KL iC=> ?_;have pI:=iu.trans (Mod.aP iC);refine cm<|br<|rg<|vm Z<|fi Z Z<|vm Z<|aa (iH Z Z fN)<|va Z<|va Z<|nl<| ?_;have QE:=QE.later iC;exact lM _ _ ⟨k+1,(jj - 1),Z,Z,pI,(by have h:=QE;rw [show jj.toNat=l.length - 1 - k by omega] at h;exact h),by omega,by omega⟩ (by omega) (.cons Z (.cons (rp Z) (eV Z Z Z)))
 ·refine er<|ep<|eY<|eo<|ne<|dR .nil<| ?_;exact ⟨Z,by have h:=o3;rw [vr.ayj (by omega) (by omega)] at h;exact h,dK⟩
section
theorem akm:P9 prog ai.cells 98 :=by
 intro a b w;obtain ⟨a0,cV⟩:=a;obtain ⟨xO,qX⟩:=b;simp only [ai.cells,ai.mk.injEq];constructor
 ·go_simp
  repeat' split
  all_goals simp_all
 ·go_simp
  repeat' split
  all_goals simp_all
theorem akl:(prog).eqGuardType (prog).depth 98 =false:=by kernel_rfl
theorem akk:dL prog ai.rep 49 98 16:=dL.jw (z:=ai.zero) (k:=2) underlying49 ai.info rfl rfl (by decide) ai.k3
section
variable {f:au} {a b c b_:ai} {ao:ai→Int} {out L:List ai} {j:Nat}
theorem akE (p q r:Bool):p=false∨(p=true∧q=false)∨(p=true∧q=true∧r=false)∨(p=true∧q=true∧r=true):=by cases p<;>cases q<;>cases r<;>simp
theorem axe (h:∀ i,i<4→(f.ground ((dF c).getD i default) && decide (0≤ao ((dF c).getD i default)) && decide (ao ((dF c).getD i default)+f.fg c=ao c))=false):kG f ao c=c:=by
 have e:(dF c).find? (λ n=>f.ground n && decide (0≤ao n) && decide (ao n+f.fg c=ao c))=none:=by
  rw [aNQ];intro x hx;obtain ⟨i,ak,rfl⟩:=aNu.1 hx;have:=h i ak;rw [oj ak] at this;rw [this];decide
 unfold kG;rw [e];rfl
theorem axd (aw:j<4) (h:∀ i,i<j→(f.ground ((dF c).getD i default) && decide (0≤ao ((dF c).getD i default)) && decide (ao ((dF c).getD i default)+f.fg c=ao c))=false) (hp:(f.ground ((dF c).getD j default) && decide (0≤ao ((dF c).getD j default)) && decide (ao ((dF c).getD j default)+f.fg c=ao c))=true):kG f ao c=(dF c).getD j default:=by
 have e:(dF c).find? (λ n=>f.ground n && decide (0≤ao n) && decide (ao n+f.fg c=ao c))=some ((dF c).getD j default):=by
  have ay:(dF c).length=4:=rfl;rw [aOT];refine ⟨hp,j,by omega,(oj (by omega)).symm,λ i ak=> ?_⟩;have:=h i ak;rw [oj (by omega)] at this;simp only [this];rfl
 unfold kG;rw [e];rfl
theorem ag3 (f:au) (ao:ai→Int) (a:ai) (n:Nat) (c:ai): [c]++(vA f ao a n c).tail=vA f ao a n c:=by
 cases n with
 | zero=>rfl
 | succ n=>unfold vA;split<;>rfl
theorem aAG (h:out++(eX f ao a c).tail=L) (τ:eX f ao a c=c::eX f ao a b_):(out++ [b_])++(eX f ao a b_).tail=L:=by
 rw [τ,List.tail_cons] at h;rw [aM6,show [b_]++(eX f ao a b_).tail=eX f ao a b_ from ag3 _ _ _ _ _];exact h
theorem ag4 (h:nu f a ao):∀ {c:ai},0≤ao c→((eX f ao a c).length:Int)≤ao c+1:=by
 have key:∀ n:Nat,∀ c,0≤ao c→(ao c).toNat=n→((eX f ao a c).length:Int)≤ao c+1:=by
  intro n;induction n using Nat.strongRecOn with
  | ind n bu =>
   intro c hc hn;by_cases dD:c=a
   ·subst dD;rw [Av h,h.zero];simp
   ·obtain ⟨mW,mX,mm,yE⟩:=h.prev hc dD;have aj:=f.mR (c:=c);have:=bu (ao (kG f ao c)).toNat (by omega) _ mm rfl;rw [Aw h hc dD,aMw];omega
 exact fun {c} hc=>key _ c hc Z
end
theorem aw2 (f:au) (a b:ai) (P:Option Addr) (cu:Nat) (w:World) (bJ:bz.aQ 8 w P cu f.places) (he:eH f a b≠0):
  Calls prog 72 #[.agg #[γ f.wide,γ f.high, .slice P f.places.length cu], .agg #[γ a.x,γ a.y], .agg #[γ b.x,γ b.y]] w (λ e w'=>e= .returned (.tuple #[.slice none 0 0,γ 0,γ (eH f a b)])∧Ext w w'):=by
 have atq:(eH f a b != 0)=true:=by simpa using he
 refine cx (n:=107) func72 Z Z Z ?_;refine eW Z Z λ dn bw bm fO ag=> ?_;refine jk Z Z λ fP dI bD j8 aF=> ?_;have b7:=J bm bD;refine jk Z Z λ iM iT b3 rm bI=> ?_;have c1:=J b7 b3;refine va Z<|va Z<|aU Z<|aG<| ?_;have ag:=ag.later (J bD b3);refine aa (aA Z (ag.all gZ gy))<| ?_;have aF:=aF.later b3;refine aa (aA Z (aF.all b0 bs))<|aa (aA Z (bI.all b0 bs))<|de ZS Z (axl f a b P cu _ (bJ.keep c1) he) λ qF eC=> ?_;have gR:=J c1 eC;refine vm Z<|b2 Z Z<|b2 Z Z<|va Z<|aU Z<|aI<|aN Z<|gJ Z Z<|aJ<|gX (gl Z atq)<|aN Z<|va Z<|va Z<|bL Z<| ?_;refine cW<|dR (.tmp Z (.tmp Z (.tmp Z .nil)))<| ?_;exact ⟨Z,gR⟩
theorem aw3 (f:au) (a b:ai) (P:Option Addr) (cu:Nat) (w:World) (bJ:bz.aQ 8 w P cu f.places) (hf:f.a7=0) (ga:f.ground a=true) (tx:f.ground b=true) (kB:0≤cE f a b b):
  Calls prog 72 #[.agg #[γ f.wide,γ f.high, .slice P f.places.length cu], .agg #[γ a.x,γ a.y], .agg #[γ b.x,γ b.y]] w (λ e w'=>∃ A c,e= .returned (.tuple #[.slice A (eX f (cE f a b) a b).reverse.length c,γ (cE f a b b),γ 0])∧ai.rep.aL 98 16 w' w.heap.size (Φ.ab A) A c (eX f (cE f a b) a b).reverse∧Ext w w'):=by
 obtain ⟨g1,g2,g3,g4,g5,g6⟩:=au.g_ hf;have abq:=au.km hf;have k8:=au.jn tx;obtain ⟨_,_,qX,e_,gD,CR⟩:=au.idx hf k8;refine cx (n:=107) func72 Z Z Z ?_;refine eW Z Z λ dn bw bm fO ag=> ?_;have ja:=ag.lt;refine jk Z Z λ fP dI bD j8 aF=> ?_;have b7:=J bm bD;have qx:=aF.lt;refine jk Z Z λ iM iT b3 rm bI=> ?_;have c1:=J b7 b3;have yF:=bI.lt;refine va Z<|va Z<|aU Z<|aG<| ?_;have ag:=ag.later (J bD b3);refine aa (aA Z (ag.all gZ gy))<| ?_;have aF:=aF.later b3;refine aa (aA Z (aF.all b0 bs))<|aa (aA Z (bI.all b0 bs))<|ca ZS Z Z ((axn f a b P cu _ (bJ.keep c1) hf ga tx kB).mono ?_);rintro e qF ⟨p,F,A,fa,c,far,l,rfl,hZ,aE,aGw,cv,aa9,eC⟩;refine cK ?_;have gR:=J c1 eC;have OO:=aE.lt;have Aq:=bY cv.lt;obtain ⟨aEw,aEx,aEy⟩:=iY hf hZ.len k8;have Dk:=λ c=>hZ.X2 c;have FO:=nu.aeL hZ kB;refine vm Z<|b2 Z Z<|b2 Z Z<|va Z<|aU Z<|aI<|aN Z<|gJ Z Z<|aJ<|hL Z<|bF<|aG<| ?_;have bI:=bI.later eC;refine aa (aA Z (bI.all b0 bs))<|b9 (e:= 98) (cs:= [γ b.x,γ b.y]) Z (λ _=>by kernel_rfl) Z λ yR Md jc atI xA=> ?_;have lq:=J gR jc;have aff:=xA.lt;refine aU Z<|aI<|aG<| ?_;have bI:=bI.later jc;refine aa (aA Z (bI.all b0 bs))<|dj sk Z λ Cb nB lU adE y6=> ?_;have n2:=J lq lU;refine c6 Z Z y6 Z bs Z Z λ sN lh y6=> ?_;have k1:=Ext.mod n2 lh bE;refine aJ<|bV<| ?_;have xA:=(xA.later lU).mod lh aY;have ajy:=aO.Kg (R:=ai.rep) (by_:=16) (B:=w.heap.size) (k:= [b]) xA [b.cells] rfl ⟨⟨rfl,cH.2 (by omega),cH.2 (by omega)⟩,trivial⟩ (by simp) (by simp) (by decide) (by omega);have ID:∀ q∈Φ.ab (a_ Md),q=Md:=λ q I=>aMu.1 I;have aF:=(aF.later (J eC (J jc lU))).mod lh aY;have bI:=(bI.later lU).mod lh aY;have aE:=(aE.later (J jc lU)).mod lh aY;have cv:=(cv.later (J jc lU)).mod lh (bk Aq);refine gh (λ cL cw aV=>∃ bd:ai,∃ q1:Nat,∃ out:List ai,∃ rU:Option Addr,∃ E8:Nat,cw= [(4, .pointer (a_ dI)),(5, .pointer (a_ iT)),(6, .slice none 0 0),(7,γ 0),(8,γ 0),(9, .pointer (a_ p)),(11, .slice rU out.length E8),(12, .pointer (a_ q1))]∧cL=(cE f a b bd).toNat∧Ext w aV∧aO aV dI [γ a.x,γ a.y] 98 (0,0)∧aO aV iT [γ b.x,γ b.y] 98 (0,0)∧aO aV p [γ f.wide,γ f.high, .slice P f.places.length cu,γ b.x,γ b.y, .slice F far.length fa, .slice A ((l:List b4).length) c] 163 (0,0)∧bz.aL 3 8 aV iM.heap.size (Φ.ab F) F fa far∧aO aV q1 [γ bd.x,γ bd.y] 98 (0,0)∧ai.rep.aL 98 16 aV w.heap.size (Φ.ab rU) rU E8 out∧(bw<q1)∧(dI<q1)∧(iT<q1)∧(p<q1)∧(∀ q∈Φ.ab F,q<q1)∧(0≤cE f a b bd)∧(out++(eX f (cE f a b) a bd).tail=eX f (cE f a b) a b)∧(w.heap.size≤q1)∧(∀ q∈Φ.ab rU,q=dI→False)∧(∀ q∈Φ.ab rU,q=iT→False)∧(∀ q∈Φ.ab rU,q=p→False)∧(∀ q∈Φ.ab rU,q=q1→False)∧(∀ q∈Φ.ab rU,q∈Φ.ab F→False)) _ _ ⟨b,nB, [b],some ⟨Md,0,none⟩,1,Z,Z,k1,aF,bI,aE,cv,y6,ajy,(by omega),(by omega),(by omega),(by omega),(λ q I=>by have:=Aq q I;omega),kB,(by unfold eX;exact ag3 _ _ _ _ _),(by omega),(λ q I af=>by (have:=ID q I;omega)),(λ q I af=>by (have:=ID q I;omega)),(λ q I af=>by (have:=ID q I;omega)),(λ q I af=>by (have:=ID q I;omega)),(λ q I af=>by (have:=ID q I;(have:=Aq q af;omega)))⟩ (ib Z) ?_;rintro rv aDd Pk ⟨bd,q1,out,rU,E8,rfl,rfl,sW,aF,bI,aE,cv,fA,k5,aGT,aGU,aGS,aGV,aaY,F1,i_,kT,vC,xV,xW,Fj,Bb⟩;have aKV:=bY cv.lt;have Vf:=bY k5.lt;have aqM:∀ q∈Φ.ab F,q=q1→False:=λ q I af=>by have:=aaY q I;omega
 have Dq:=au.jn (FO.gr bd F1);have ark:=FO.gr bd F1;obtain ⟨_,_,aEE,aEF,aEG,aEH⟩:=au.idx hf Dq;have arE:=f.mR (c:=bd);have nF:=aeU hf ark;have aFJ:=Dk bd;have abu:out.length≤4801:=by have κ:=aON List.length i_;rw [aMB] at κ;have τ:=ag4 FO kB;have aq:=Dk b;omega
 refine aI<|aG<|aa (aA Z (fA.all b0 bs))<|aa (aA Z (aF.all b0 bs))<|aa (Yd akm akl (p:=bd) (q:=a) Z Z)<|aJ<| ?_;refine c_ Z (λ SP=> ?_) (λ SP=> ?_)
 ·have NC:bd≠a:=by simpa using SP
  obtain ⟨mW,mX,mm,yE⟩:=FO.prev F1 NC;have Ge:=Aw FO F1 NC;refine bF<|aI<|bV<|aN Z<|aa (aA Z (fA.all b0 bs))<|de RB Z (Uq w f P F A cu fa c p far l b bd _ sW hf bJ aE) λ agQ qI=> ?_;have K_:=J sW qI;refine vm Z<|b2 Z Z<|b2 Z Z<|va Z<|aU Z<|aI<|aG<| ?_;have fA:=fA.later qI;refine aa (aA Z (fA.all b0 bs))<|de ZP Z (ae9 bd _ (by first | omega | (dsimp only;omega))) λ KO pH=> ?_;have uL:=J K_ pH;refine vm Z<|aJ<|bV<| ?_;have ee:=(J qI pH);have aF:=aF.later ee;have bI:=bI.later ee;have aE:=aE.later ee;have cv:=cv.later ee;have fA:=fA.later pH;have k5:=k5.later ee;refine gh (λ cL cw aV=>∃ j:Nat,cw= [(4, .pointer (a_ dI)),(5, .pointer (a_ iT)),(6, .slice none 0 0),(7,γ 0),(8,γ 0),(9, .pointer (a_ p)),(11, .slice rU out.length E8),(12, .pointer (a_ q1)),(13,γ (oK f bd)),(32, .agg #[γ bd.x,γ bd.y]),(33, .agg #[γ a.x,γ a.y]),(34, .bool (!decide (bd=a))),(35, .tuple #[γ (oK f bd), .bool (f.ground bd)]),(36, .pointer (a_ p)),(37, .agg #[γ bd.x,γ bd.y]),(38, .tuple #[γ (oK f bd), .bool (f.ground bd)]),(39,γ (oK f bd)),(40, .bool (f.ground bd)),(41, .agg #[γ bd.x,γ bd.y]),(42, .agg #[γ bd.x,γ (bd.y - 1),γ (bd.x - 1),γ bd.y,γ (bd.x+1),γ bd.y,γ bd.x,γ (bd.y+1)]),(43,γ (j:Int))]∧cL=4 - j∧Ext w aV∧aO aV dI [γ a.x,γ a.y] 98 (0,0)∧aO aV iT [γ b.x,γ b.y] 98 (0,0)∧aO aV p [γ f.wide,γ f.high, .slice P f.places.length cu,γ b.x,γ b.y, .slice F far.length fa, .slice A ((l:List b4).length) c] 163 (0,0)∧bz.aL 3 8 aV iM.heap.size (Φ.ab F) F fa far∧aO aV q1 [γ bd.x,γ bd.y] 98 (0,0)∧ai.rep.aL 98 16 aV w.heap.size (Φ.ab rU) rU E8 out∧(j≤4)∧(∀ i,i<j→(f.ground ((dF bd).getD i default) && decide (0≤cE f a b ((dF bd).getD i default)) && decide (cE f a b ((dF bd).getD i default)+f.fg bd=cE f a b bd))=false)) _ _ ⟨0,Z,Z,uL,aF,bI,aE,cv,fA,k5,by omega,λ i ak=>by omega⟩ (eV Z Z Z) ?_;rintro aem aDj KP ⟨j,rfl,rfl,rS,aF,bI,aE,cv,fA,k5,aw,jr⟩;have afj:=aF.lt;have axF:=bI.lt;have axG:=aE.lt;have wY:=bY cv.lt;have aKi:=fA.lt;have Pd:=bY k5.lt;refine aG<|fI Z Z<|aJ<|aI<| ?_;refine fM Z (λ aqD=> ?_) (λ aqD=> ?_)
  ·refine bF<|aI<|bV<|aG<| ?_;obtain ⟨b_,hY⟩:∃ b_,(dF bd).getD j default=b_:=⟨_,rfl⟩;have Ts:=afW (c:=bd) (j:=j) (by omega);rw [hY] at Ts;refine aa (N5 Z Z (afa bd j (by omega) hY _))<|dj sk Z λ aAx aEp fo aH8 nt=> ?_;have Wf:=J rS fo;have aKn:=nt.lt;refine c6 Z Z nt Z bs Z Z λ G4 h' nt=> ?_;have:=h'.size;have n4:=Ext.mod Wf h' bE;refine aJ<|aN Z<|aa (aA Z (nt.all b0 bs))<| ?_;have aE:=(aE.later fo).mod h' aY;refine de RB Z (Uq w f P F A cu fa c p far l b b_ _ n4 hf bJ aE) λ Er eF=> ?_;have:=eF.size;have kv:=J n4 eF;refine vm Z<|b2 Z Z<|b2 Z Z<|va Z<|aU Z<|aI<| ?_;rcases akE (f.ground b_) (decide (0≤cE f a b b_)) (((cE f a b b_)+(oK f bd))== (cE f a b bd)) with bS | ⟨bS,yr⟩ | ⟨bS,yr,DD⟩ | ⟨bS,yr,DD⟩
   ·have vW:(f.ground b_ && decide (0≤cE f a b b_) && decide (cE f a b b_+f.fg bd=cE f a b bd))=false:=by rw [bS];rfl
    refine du [(5,0),(7,0),(8,0),(10,0),(17,0),(19,0),(20,0),(22,0),(28,0),(30,0),(31,0),(33,0)] [0,1,2,3,4,5,6,7,8,9,10,11,12,13,14,15,16,17,18,19,20,21,22,23,24,25,26,27,28,29,30,31,32,33,34,35] ?_;refine ax rfl (λ _=>jx (gl rfl bS))<|bn rfl rfl<|cT rfl rfl<|cT rfl rfl<|cT rfl rfl<|iX rfl rfl<|cT rfl rfl<|iX rfl rfl<|kh (v:=undef) (args:= []) rfl rfl rfl rfl rfl rfl lG (λ hc=>nomatch hc) (λ hc=>nomatch hc) rfl<|cT rfl rfl<|iX rfl rfl<|cT rfl rfl<|ax rfl (λ _=>pn rfl rfl)<|bn rfl rfl<|cT rfl rfl<|cT rfl rfl<|cT rfl rfl<|iX rfl rfl<|cT rfl rfl<|iX rfl rfl<|kh (v:=undef) (args:= []) rfl rfl rfl rfl rfl rfl lG (λ hc=>nomatch hc) (λ hc=>nomatch hc) rfl<|cT rfl rfl<|iX rfl rfl<|cT rfl rfl<| ?_;refine cT rfl rfl<|cT rfl rfl<|cT rfl rfl<|cT rfl rfl<|iX rfl rfl<|cT rfl rfl<|iX rfl rfl<|kh (v:=undef) (args:= []) rfl rfl rfl rfl rfl rfl lG (λ hc=>nomatch hc) (λ hc=>nomatch hc) rfl<|cT rfl rfl<|iX rfl rfl<|cT rfl rfl<|ax rfl (λ _=>pn rfl rfl)<|fn λ KT mB=> ?_;have y2:=J kv mB;refine br<|hL Z<|gb<|cm<|eR Z Z Z<| ?_;have lg:=(J eF mB);have aF:=((aF.later fo).mod h' aY).later lg;have bI:=((bI.later fo).mod h' aY).later lg;have aE:=aE.later lg;have cv:=((cv.later fo).mod h' (cY λ q I af=>by have:=wY q I;have:=Aq q I;omega)).later lg;have fA:=((fA.later fo).mod h' aY).later lg;have k5:=((k5.later fo).mod h' (bk Pd)).later lg;exact fh ⟨j+1,Z,Z,y2,aF,bI,aE,cv,fA,k5,by omega,DK jr (by rw [hY];exact vW)⟩
   ·have k_:=au.jn bS;obtain ⟨Ox,Oy,Oz⟩:=iY hf hZ.len k_;have vW:(f.ground b_ && decide (0≤cE f a b b_) && decide (cE f a b b_+f.fg bd=cE f a b bd))=false:=by rw [bS,yr];rfl
    refine du [(5,0),(7,0),(8,0),(10,0),(17,0),(19,0),(20,0),(22,0),(28,0),(30,0),(31,0),(33,0)] [0,1,2,3,4,5,6,7,8,9,10,11,12,13,14,15,16,17,18,19,20,21,22,23,24,25,26,27,28,29,30,31,32,33,34,35] ?_;refine ax Z (λ _=>jx (gl Z bS))<|bn Z Z<|eP Z Z Z<|bQ Z Z (λ hc _=>b1 Z)<|bQ Z Z (λ hc _=>ar nD Z)<| ?_;have aE:=aE.later eF;refine dB Z Z (λ hc _ x=>aA Z ((aE.later x).one fC Z))<|eP Z Z Z<| ?_;have nt:=nt.later eF;refine dB Z Z (λ hc _ x=>aA Z ((nt.later x).all b0 bs))<|kh Z Z Z Z Z Z lG (λ hc=>Z) (λ hc _ x=>qw w f P F A cu fa c p far l b b_ _ (J kv x) hf bJ (aE.later x) (by first | omega | (dsimp only;omega))) Z<| ?_;have cv:=((cv.later fo).mod h' (cY λ q I af=>by have:=wY q I;have:=Aq q I;omega)).later eF;have Bv:=(iY hf hZ.len k_).1;refine bQ rfl rfl (λ hc _=>bX ((b_.y * f.wide+b_.x).toNat) underlying46 cr rfl rfl (cv.has.bx (a1 ((b_.y * f.wide+b_.x).toNat) (by omega))) (by (try simp only [cq] at hc);omega) (by omega))<|dB rfl rfl (λ hc _ x=>aA rfl (Φ.aQ.dm dy ((cv.later x).has.ck (a1 ((b_.y * f.wide+b_.x).toNat) (by omega))) (hZ.get hf k_) rfl aZ))<|bQ rfl rfl (λ hc _=>k7 rfl rfl)<|ax rfl (λ _=>oL rfl (gl rfl yr))<|bn rfl rfl<|cT rfl rfl<|cT rfl rfl<|cT rfl rfl<|iX rfl rfl<|cT rfl rfl<|iX rfl rfl<|kh (v:=undef) (args:= []) rfl rfl rfl rfl rfl rfl lG (λ hc=>nomatch hc) (λ hc=>nomatch hc) rfl<|cT rfl rfl<|iX rfl rfl<|cT rfl rfl<|cT rfl rfl<|cT rfl rfl<|cT rfl rfl<|cT rfl rfl<|iX rfl rfl<|cT rfl rfl<|iX rfl rfl<|kh (v:=undef) (args:= []) rfl rfl rfl rfl rfl rfl lG (λ hc=>nomatch hc) (λ hc=>nomatch hc) rfl<|cT rfl rfl<| ?_;refine iX Z Z<|cT Z Z<|ax Z (λ _=>pn Z Z)<|fn λ VH AG=> ?_;have EH:=J kv AG;refine br<|hL Z<|gb<|cm<|eR Z Z Z<| ?_;have qp:=(J eF AG);have aF:=((aF.later fo).mod h' aY).later qp;have bI:=((bI.later fo).mod h' aY).later qp;have aE:=aE.later AG;have cv:=cv.later AG;have fA:=((fA.later fo).mod h' aY).later qp;have k5:=((k5.later fo).mod h' (bk Pd)).later qp;exact fh ⟨j+1,Z,Z,EH,aF,bI,aE,cv,fA,k5,by omega,DK jr (by rw [hY];exact vW)⟩
   ·have k_:=au.jn bS;obtain ⟨Ox,Oy,Oz⟩:=iY hf hZ.len k_;obtain ⟨avL,avM,avN⟩:=iY hf hZ.len Dq;have aqS:=Dk b_;have l':=aNt yr;have vW:(f.ground b_ && decide (0≤cE f a b b_) && decide (cE f a b b_+f.fg bd=cE f a b bd))=false:=by rw [nF,aPL] at DD;rw [bS,yr,aMY DD];rfl
    refine du [(5,0),(7,0),(8,0),(10,0),(17,0),(19,0),(20,0),(22,0),(28,0),(30,0),(31,0),(33,0)] [0,1,2,3,4,5,6,7,8,9,10,11,12,13,14,15,16,17,18,19,20,21,22,23,24,25,26,27,28,29,30,31,32,33,34,35] ?_;refine ax Z (λ _=>jx (gl Z bS))<|bn Z Z<|eP Z Z Z<|bQ Z Z (λ hc _=>b1 Z)<|bQ Z Z (λ hc _=>ar nD Z)<| ?_;have aE:=aE.later eF;refine dB Z Z (λ hc _ x=>aA Z ((aE.later x).one fC Z))<|eP Z Z Z<| ?_;have nt:=nt.later eF;refine dB Z Z (λ hc _ x=>aA Z ((nt.later x).all b0 bs))<|kh Z Z Z Z Z Z lG (λ hc=>Z) (λ hc _ x=>qw w f P F A cu fa c p far l b b_ _ (J kv x) hf bJ (aE.later x) (by first | omega | (dsimp only;omega))) Z<| ?_;have cv:=((cv.later fo).mod h' (cY λ q I af=>by have:=wY q I;have:=Aq q I;omega)).later eF;have Bv:=(iY hf hZ.len k_).1;refine bQ Z Z (λ hc _=>bX ((b_.y * f.wide+b_.x).toNat) underlying46 cr Z Z (cv.has.bx (a1 ((b_.y * f.wide+b_.x).toNat) (by omega))) (by (try simp only [cq] at hc);omega) (by omega))<|dB Z Z (λ hc _ x=>aA Z (Φ.aQ.dm dy ((cv.later x).has.ck (a1 ((b_.y * f.wide+b_.x).toNat) (by omega))) (hZ.get hf k_) Z aZ))<|bQ Z Z (λ hc _=>k7 Z Z)<|ax Z (λ _=>oL Z (gl Z yr))<|bn Z Z<|eP Z Z Z<|bQ Z Z (λ hc _=>b1 Z)<|bQ Z Z (λ hc _=>ar nD Z)<|dB Z Z (λ hc _ x=>aA Z ((aE.later x).one fC Z))<|eP Z Z Z<|dB Z Z (λ hc _ x=>aA Z ((nt.later x).all b0 bs))<|kh Z Z Z Z Z Z lG (λ hc=>Z) (λ hc _ x=>qw w f P F A cu fa c p far l b b_ _ (J kv x) hf bJ (aE.later x) (by first | omega | (dsimp only;omega))) Z<|bQ Z Z (λ hc _=>bX ((b_.y * f.wide+b_.x).toNat) underlying46 cr Z Z (cv.has.bx (a1 ((b_.y * f.wide+b_.x).toNat) (by omega))) (by (try simp only [cq] at hc);omega) (by omega))<|dB Z Z (λ hc _ x=>aA Z (Φ.aQ.dm dy ((cv.later x).has.ck (a1 ((b_.y * f.wide+b_.x).toNat) (by omega))) (hZ.get hf k_) Z aZ))<|eP Z Z Z<|bQ Z Z (λ hc _=>bad Z Z (la (by (try simp only [cq] at hc);omega)))<|eP Z Z Z<|bQ Z Z (λ hc _=>b1 Z)<|bQ Z Z (λ hc _=>ar nD Z)<|dB Z Z (λ hc _ x=>aA Z ((aE.later x).one fC Z))<|eP Z Z Z<| ?_;have fA:=((fA.later fo).mod h' aY).later eF;have Bv:=(iY hf hZ.len Dq).1;refine dB Z Z (λ hc _ x=>aA Z ((fA.later x).all b0 bs))<|kh Z Z Z Z Z Z lG (λ hc=>Z) (λ hc _ x=>qw w f P F A cu fa c p far l b bd _ (J kv x) hf bJ (aE.later x) (by first | omega | (dsimp only;omega))) Z<|bQ Z Z (λ hc _=>bX ((bd.y * f.wide+bd.x).toNat) underlying46 cr Z Z (cv.has.bx (a1 ((bd.y * f.wide+bd.x).toNat) (by omega))) (by (try simp only [cq] at hc);omega) (by omega))<|dB Z Z (λ hc _ x=>aA Z (Φ.aQ.dm dy ((cv.later x).has.ck (a1 ((bd.y * f.wide+bd.x).toNat) (by omega))) (hZ.get hf Dq) Z aZ))<|bQ Z Z (λ hc _=>beq Z Z)<|ax Z (λ _=>oL Z (gl Z DD))<|fn λ agZ yZ=> ?_;have Wi:=J kv yZ;refine br<|hL Z<|gb<|cm<|eR Z Z Z<| ?_;have yw:=(J eF yZ);have aF:=((aF.later fo).mod h' aY).later yw;have bI:=((bI.later fo).mod h' aY).later yw;have aE:=aE.later yZ;have cv:=cv.later yZ;have fA:=fA.later yZ;have k5:=((k5.later fo).mod h' (bk Pd)).later yw;exact fh ⟨j+1,Z,Z,Wi,aF,bI,aE,cv,fA,k5,by omega,DK jr (by rw [hY];exact vW)⟩
   ·have k_:=au.jn bS;obtain ⟨Ox,Oy,Oz⟩:=iY hf hZ.len k_;obtain ⟨avL,avM,avN⟩:=iY hf hZ.len Dq;have aqS:=Dk b_;have l':=aNt yr;have aso:kG f (cE f a b) bd=b_:=by rw [nF,aNq] at DD;rw [← hY];exact axd (by omega) jr (by rw [hY,bS,yr,aMV DD];rfl)
    rw [aso] at mW mX mm yE Ge;obtain ⟨_,_,aIs,aIt,aIu,aIv⟩:=au.idx hf k_;have abW:=aAG i_ Ge;refine du [(5,0),(7,0),(8,0),(10,0),(17,0),(19,0),(20,0),(22,0),(28,0),(30,0),(31,0),(33,0)] [0,1,2,3,4,5,6,7,8,9,10,11,12,13,14,15,16,17,18,19,20,21,22,23,24,25,26,27,28,29,30,31,32,33,34,35] ?_;refine ax Z (λ _=>jx (gl Z bS))<|bn Z Z<|eP Z Z Z<|bQ Z Z (λ hc _=>b1 Z)<|bQ Z Z (λ hc _=>ar nD Z)<| ?_;have aE:=aE.later eF;refine dB Z Z (λ hc _ x=>aA Z ((aE.later x).one fC Z))<|eP Z Z Z<| ?_;have nt:=nt.later eF;refine dB Z Z (λ hc _ x=>aA Z ((nt.later x).all b0 bs))<|kh Z Z Z Z Z Z lG (λ hc=>Z) (λ hc _ x=>qw w f P F A cu fa c p far l b b_ _ (J kv x) hf bJ (aE.later x) (by first | omega | (dsimp only;omega))) Z<| ?_;have cv:=((cv.later fo).mod h' (cY λ q I af=>by have:=wY q I;have:=Aq q I;omega)).later eF;have Bv:=(iY hf hZ.len k_).1;refine bQ Z Z (λ hc _=>bX ((b_.y * f.wide+b_.x).toNat) underlying46 cr Z Z (cv.has.bx (a1 ((b_.y * f.wide+b_.x).toNat) (by omega))) (by (try simp only [cq] at hc);omega) (by omega))<|dB Z Z (λ hc _ x=>aA Z (Φ.aQ.dm dy ((cv.later x).has.ck (a1 ((b_.y * f.wide+b_.x).toNat) (by omega))) (hZ.get hf k_) Z aZ))<|bQ Z Z (λ hc _=>k7 Z Z)<|ax Z (λ _=>oL Z (gl Z yr))<|bn Z Z<|eP Z Z Z<|bQ Z Z (λ hc _=>b1 Z)<|bQ Z Z (λ hc _=>ar nD Z)<|dB Z Z (λ hc _ x=>aA Z ((aE.later x).one fC Z))<|eP Z Z Z<|dB Z Z (λ hc _ x=>aA Z ((nt.later x).all b0 bs))<|kh Z Z Z Z Z Z lG (λ hc=>Z) (λ hc _ x=>qw w f P F A cu fa c p far l b b_ _ (J kv x) hf bJ (aE.later x) (by first | omega | (dsimp only;omega))) Z<|bQ Z Z (λ hc _=>bX ((b_.y * f.wide+b_.x).toNat) underlying46 cr Z Z (cv.has.bx (a1 ((b_.y * f.wide+b_.x).toNat) (by omega))) (by (try simp only [cq] at hc);omega) (by omega))<|dB Z Z (λ hc _ x=>aA Z (Φ.aQ.dm dy ((cv.later x).has.ck (a1 ((b_.y * f.wide+b_.x).toNat) (by omega))) (hZ.get hf k_) Z aZ))<|eP Z Z Z<|bQ Z Z (λ hc _=>bad Z Z (la (by (try simp only [cq] at hc);omega)))<|eP Z Z Z<|bQ Z Z (λ hc _=>b1 Z)<|bQ Z Z (λ hc _=>ar nD Z)<|dB Z Z (λ hc _ x=>aA Z ((aE.later x).one fC Z))<|eP Z Z Z<| ?_;have fA:=((fA.later fo).mod h' aY).later eF;have Bv:=(iY hf hZ.len Dq).1;refine dB Z Z (λ hc _ x=>aA Z ((fA.later x).all b0 bs))<|kh Z Z Z Z Z Z lG (λ hc=>Z) (λ hc _ x=>qw w f P F A cu fa c p far l b bd _ (J kv x) hf bJ (aE.later x) (by first | omega | (dsimp only;omega))) Z<|bQ Z Z (λ hc _=>bX ((bd.y * f.wide+bd.x).toNat) underlying46 cr Z Z (cv.has.bx (a1 ((bd.y * f.wide+bd.x).toNat) (by omega))) (by (try simp only [cq] at hc);omega) (by omega))<|dB Z Z (λ hc _ x=>aA Z (Φ.aQ.dm dy ((cv.later x).has.ck (a1 ((bd.y * f.wide+bd.x).toNat) (by omega))) (hZ.get hf Dq) Z aZ))<|bQ Z Z (λ hc _=>beq Z Z)<|ax Z (λ _=>oL Z (gl Z DD))<|fn λ ag0 lR=> ?_;have:=lR.size;have Lf:=J kv lR;refine br<|gX Z<|aG<| ?_;have nt:=nt.later lR;refine aa (aA Z (nt.all b0 bs))<| ?_;have fA:=fA.later lR;refine c6 Z Z fA Z bs Z Z λ aAa tP fA=> ?_;have:=tP.size;have VW:=Ext.mod Lf tP bE;refine aJ<|er<|KX Z<|ep<|eY<|eo<|br<|rg<|vm Z<|aa (aA Z (fA.all b0 bs))<|b9 (e:= 98) (cs:= [γ b_.x,γ b_.y]) Z (λ _=>by kernel_rfl) Z λ Vs aDO rO aHo WJ=> ?_;have EA:=J VW rO;have aJA:=WJ.lt;have k5:=((((k5.later fo).mod h' (bk Pd)).later (J eF lR)).mod tP (cY Fj)).later rO;refine ap akk Φ.cZ k5 (aO.fu (R:=ai.rep) (by_:=16) (q:=b_) WJ ⟨Z,⟨fZ,fZ⟩⟩ (by decide)) Z Z (by have asN:=abu;simp only [aMw,aMz];omega) (by have asN:=abu;simp only [aMw,aMz];omega) (by omega) Z λ aK5 ahR alE wu LL Nl aID=> ?_;have:=wu.size;have aBs:=Ext.mod EA wu (λ q I=>aMR (by omega) (k5.lt q I).1);have ags:=bY LL.lt;refine va Z<|nl<|cm<|br<|aG<| ?_;have fA:=(fA.later rO).mod wu (λ I=>Fj _ I rfl);refine aa (aA Z (fA.all b0 bs))<|aJ<|rg<|dj sk Z λ Pg akG Ew aHt P3=> ?_;have Co:=J aBs Ew;refine c6 Z Z P3 Z bs Z Z λ aLe DO P3=> ?_;have aBA:=Ext.mod Co DO bE;refine nl<| ?_;have aF:=(((((((aF.later fo).mod h' aY).later (J eF lR)).mod tP aY).later rO).mod wu (λ I=>vC _ I rfl)).later Ew).mod DO aY;have bI:=(((((((bI.later fo).mod h' aY).later (J eF lR)).mod tP aY).later rO).mod wu (λ I=>xV _ I rfl)).later Ew).mod DO aY;have aE:=(((((aE.later lR).mod tP aY).later rO).mod wu (λ I=>xW _ I rfl)).later Ew).mod DO aY;have cv:=(((((cv.later lR).mod tP (cY aqM)).later rO).mod wu (fX Bb)).later Ew).mod DO (cY λ q I af=>by have:=wY q I;have:=Aq q I;omega);have fA:=(fA.later Ew).mod DO aY;have LL:=(LL.later Ew).mod DO (bk ags);exact lM _ _ ⟨b_,akG,out++ [b_],ahR,alE,Z,Z,aBA,aF,bI,aE,cv,P3,LL,(by omega),(by omega),(by omega),(by omega),(λ q I=>by have:=aaY q I;omega),mm,abW,(by omega),(gp Nl vC),(gp Nl xV),(gp Nl xW),(λ q I af=>by (have:=ags q I;omega)),(λ q I af=>by (exact aMS (Nl q I) (λ JL=>by (exact Bb q JL af)) (λ JL=>by (have:=wY q af;have:=Aq q af;omega))))⟩ (by omega) (ib Z)
  ·exfalso;have iV:j=4:=by omega
   rw [iV] at jr;exact au.ayR mW (axe jr)
 ·have NC:bd=a:=by simpa using SP
  refine er<|ep<|eY<|eo<|br<|aN Z<|ca aoH Z Z ((ayd _ _ w.heap.size out _ k5 (ai.QS k5.has)).mono ?_);rintro e aLi ⟨rfl,QB,Oi⟩;refine cK ?_;have ahh:=Ext.mod sW Oi (λ q I=>(k5.lt q I).1);refine aJ<|aI<| ?_;refine du [(4,0),(6,0),(7,0),(9,0)] [0,1,2,3,4,5,6,7,8,9,10,11,12] ?_;refine bn Z Z<|bn Z Z<|ax Z (λ _=>b1 Z)<|ax Z (λ _=>ar nD Z)<| ?_;have aE:=aE.mod Oi (λ I=>xW _ I rfl);refine cO Z Z aE fC Z<|bn Z Z<| ?_;have bI:=bI.mod Oi (λ I=>xV _ I rfl);refine cR Z (λ _ x=>aA Z ((bI.later x).all b0 bs))<|q8 Z Z lG Z (λ _ x=>qw w f P F A cu fa c p far l b b _ (J ahh x) hf bJ (aE.later x) (by first | omega | (dsimp only;omega))) Z<| ?_;have cv:=cv.mod Oi (fX Bb);refine ax Z (λ _=>bX ((b.y * f.wide+b.x).toNat) underlying46 cr Z Z (cv.has.bx (a1 ((b.y * f.wide+b.x).toNat) (by have ra:=(iY hf hZ.len k8).1;omega))) (by omega) (by have ra:=(iY hf hZ.len k8).1;omega))<|cR Z (λ _ x=>aA Z (Φ.aQ.dm dy ((cv.later x).has.ck (a1 ((b.y * f.wide+b.x).toNat) (by have ra:=(iY hf hZ.len k8).1;omega))) (hZ.get hf k8) Z aZ))<|ax Z (λ _=>eQ Z)<|ax Z (λ _=>eQ Z)<|ax Z (λ _=>eQ Z)<|fn λ aLj G9=> ?_;have aBD:=J ahh G9;refine br<|rt<|dR (.tmp Z (.tmp Z (.tmp Z .nil)))<| ?_;have QB:=QB.later G9;have Gd:out=eX f (cE f a b) a b:=by rw [NC,Av FO] at i_;simpa using i_
  exact ⟨_,_,by rw [← Gd,aOi];rfl,by rw [← Gd];exact QB,aBD⟩
end
section
section
variable {f:au} {a b c x:ai} {dl far:List Int} {d:Int}
def QR (f:au):List ai:=(List.range f.high.toNat).flatMap λ (y:Nat)=>(List.range f.wide.toNat).map λ (x:Nat)=>(⟨(x:Int),(y:Int)⟩:ai)
theorem avs (hc:f.dU c=true):c∈QR f:=by
 unfold au.dU at hc;rw [aMF] at hc;have κ:=jt hc.1;have τ:=jt hc.2;unfold QR;rw [List.mem_flatMap];refine ⟨c.y.toNat,aM8.2 (by omega),aMT.2 ⟨c.x.toNat,aM8.2 (by omega), ?_⟩⟩;obtain ⟨A',Iq⟩:=c;simp only [ai.mk.injEq] at κ τ ⊢;omega
def Yp (f:au) (a b:ai) (dl far:List Int) (c:ai):Bool :=
 (decide (0≤f.ao dl c) || decide (f.ao dl c= -1)) &&
 (!decide (0≤f.ao dl c) || (f.ground c && ((decide (c=a) && decide (f.ao dl c=0)) || (dF c).any λ p=>decide (0≤f.ao dl p) && decide (f.ao dl c=f.ao dl p+f.fg c)))) &&
 (!decide (0≤f.ao dl c) || (f.cD c).all λ y=>decide (0≤f.ao dl y) && decide (f.ao dl y≤f.ao dl c+f.fg y)) &&
 decide (f.ao far c=if 0≤f.ao dl c∧(f.ao dl b<0∨f.ao dl c+au.iW b c≤f.ao dl b) then f.ao dl c else -1) &&
 decide (f.ao dl c≤3 * (f.places.length:Int))
def Yo (f:au) (a b:ai) (dl far:List Int):Bool:=decide (far.length=f.places.length) && decide (f.ao dl a=0) && (QR f).all (Yp f a b dl far)
theorem cert (h:Yo f a b dl far=true):mG f a b far:=by
 unfold Yo at h;simp only [aMF,aMD,aNd] at h;obtain ⟨⟨hlen,ha⟩,ej⟩:=h;have at_:∀ c,f.dU c=true→_:=λ c hc=>ej c (avs hc);unfold Yp at at_;simp only [aMF,aNa,aNF,aMD,aMC,aNL,aNd] at at_;have neg:∀ c,f.ao dl c<0→f.ao dl c= -1:=λ c h=>by
  cases hc:f.dU c with
  | false=>exact au.Da hc
  | true=>have:=(at_ c hc).1.1.1.1;omega
 have gr:∀ c,0≤f.ao dl c→f.ground c=true∧((c=a∧f.ao dl c=0)∨∃ p∈dF c,0≤f.ao dl p∧f.ao dl c=f.ao dl p+f.fg c):=λ c h=>by
  obtain κ:=(at_ c (au.R0 h)).1.1.1.2;rcases κ with κ | ⟨κ,τ⟩
  ·exact absurd h κ
  ·exact ⟨κ,τ⟩
 have nN:∀ c,0≤f.ao dl c→∀ y∈f.cD c,0≤f.ao dl y∧f.ao dl y≤f.ao dl c+f.fg y:=λ c h y aH=>by
  rcases (at_ c (au.R0 h)).1.1.2 with κ | κ
  ·exact absurd h κ
  ·exact κ y aH
 have ar:∀ c,f.ao far c=if 0≤f.ao dl c∧(f.ao dl b<0∨f.ao dl c+au.iW b c≤f.ao dl b) then f.ao dl c else -1:=λ c=>by
  cases hc:f.dU c with
  | false=>rw [au.Da hc,au.Da hc,aMA (by omega)]
  | true=>exact (at_ c hc).1.2
 have low:∀ c d,l3.l5 f.cD f.fg (λ s=>s=a) c d→0≤f.ao dl c∧f.ao dl c≤d:=λ c d r=>by
  induction r with
  | start hs=>subst hs;omega
  | step _ aH bu=>have:=nN _ bu.1 _ aH;omega
 have up:∀ n:Nat,∀ c,0≤f.ao dl c→(f.ao dl c).toNat=n→l3.l5 f.cD f.fg (λ s=>s=a) c (f.ao dl c):=by
  intro n;induction n using Nat.strongRecOn with
  | ind n bu =>
   intro c hc hn;obtain ⟨g,κ | ⟨p,κ,τ,aq⟩⟩:=gr c hc
   ·rw [κ.2];exact .start κ.1
   ·have:=f.mR (c:=c);rw [aq];exact .step (bu (f.ao dl p).toNat (by omega) p τ Z) (au.D2.2 ⟨au.GN κ,g⟩)
 have N4:∀ c,0≤f.ao dl c→l3.pQ f.cD f.fg (λ s=>s=a) c (f.ao dl c):=λ c hc=>⟨up _ c hc rfl,λ d r=>(low c d r).2⟩;have azr:∀ D,l3.pQ f.cD f.fg (λ s=>s=a) b D→0≤f.ao dl b∧D=f.ao dl b:=λ D mM=>⟨(low b D mM.1).1,mM.uniq (N4 b (low b D mM.1).1)⟩;have pos:∀ c,0≤f.ao far c→0≤f.ao dl c∧(f.ao dl b<0∨f.ao dl c+au.iW b c≤f.ao dl b)∧f.ao far c=f.ao dl c:=λ c h=>by
  rw [ar c] at h ⊢;split at h
  ·rename_i dN;rw [aMI dN];exact ⟨dN.1,dN.2,Z⟩
  ·omega
 refine ⟨hlen,⟨λ c h=> ?_,λ c h=> ?_,λ c d hd hle=> ?_,λ c h=> ?_⟩,λ c=> ?_,λ c h=>(gr c (pos c h).1).1⟩
 ·rw [ar c] at h ⊢;split at h
  ·omega
  ·rename_i dN;rw [aMA dN]
 ·obtain ⟨κ,τ,aq⟩:=pos c h;rw [aq];refine ⟨N4 c κ,λ D mM=> ?_⟩;obtain ⟨bb,bT⟩:=azr D mM;rw [bT];omega
 ·have κ:=low c d hd.1;have τ:=hd.uniq (N4 c κ.1);have S6:f.ao dl b<0∨f.ao dl c+au.iW b c≤f.ao dl b:=by
   by_cases aq:f.ao dl b<0
   ·exact .inl aq
   ·right;have:=hle _ (N4 b (by omega));omega
  rw [ar c,aMI ⟨κ.1,S6⟩,← τ]
 ·obtain ⟨κ,τ,aq⟩:=pos c h;rw [aq];obtain ⟨g,bb | ⟨p,bb,bT,cy⟩⟩:=gr c κ
  ·exact .inl bb
  ·right;have he:=au.M3 b (au.GN bb);have aj:=f.mR (c:=c);have hp:f.ao far p=f.ao dl p:=by rw [ar p,aMI ⟨bT,by omega⟩]
   exact ⟨p,by rw [hp];exact bT,au.D2.2 ⟨au.GN bb,g⟩,by rw [hp];exact cy⟩
 ·by_cases h:0≤f.ao far c
  ·obtain ⟨κ,τ,aq⟩:=pos c h;rw [aq];exact (at_ c (au.R0 κ)).2
  ·omega
end
theorem aeX (f:au) (a b:ai) (P:Option Addr) (cu:Nat) (w:World) (bJ:bz.aQ 8 w P cu f.places):
  Calls prog 72 #[.agg #[.int .i64 f.wide, .int .i64 f.high, .slice P f.places.length cu], .agg #[.int .i64 a.x, .int .i64 a.y], .agg #[.int .i64 b.x, .int .i64 b.y]] w (λ e w'=>∃ A c,e= .returned (.tuple #[.slice A (cQ f a b).length c, .int .i64 (iw f a b), .int .i64 (eH f a b)])∧ai.rep.aL 98 16 w' w.heap.size (Φ.ab A) A c (cQ f a b)∧Ext w w'):=by
 by_cases he:eH f a b=0
 ·rcases RR f a b with ⟨κ,τ⟩ | ⟨κ,τ,aq⟩ | ⟨κ,τ,aq,bb⟩ | ⟨κ,τ,aq,bb | bb⟩
  ·rw [τ] at he;exact absurd he κ
  ·rw [aq] at he;exact absurd he τ
  ·rw [bb] at he;cases he
  ·rw [bb.2] at he;cases he
  ·unfold cQ iw;rw [aMI he,aMI he,he];exact aw3 f a b P cu w bJ κ τ aq bb.1
 ·unfold cQ iw;rw [aMA he,aMA he];exact (aw2 f a b P cu w bJ he).mono λ e w' h=>⟨none,0,h.1,Φ.aL.nil _,h.2⟩
section
variable {f:au} {a b:ai} {far:List Int}
theorem api (h:mG f a b far) (hf:f.a7=0) (ha:f.ground a=true) (af:f.ground b=true) (aB:0≤f.ao far b):eH f a b=0∧iw f a b=f.ao far b∧cQ f a b=(eX f (f.ao far) a b).reverse:=by
 have κ:0≤cE f a b b:=by rw [← h.C'];exact aB
 have he:=M8 hf ha af κ;refine ⟨he, ?_, ?_⟩
 ·unfold iw;rw [aMI he,h.C']
 ·unfold cQ;rw [aMI he,h.C']
end
end
theorem xR (A:Option Addr) (c:Nat) (l:List Int) (w:World) (h:bz.aQ 8 w A c l):
  Calls prog 65 #[.slice A l.length c] w λ e w'=>∃ bR cn,e= .returned (.slice bR l.length cn)∧bz.aL 3 8 w' w.heap.size (Φ.ab bR) bR cn l∧(bR=none↔A=none)∧Below w.heap.size w w':=by
 obtain ⟨i0,ak,BI,Dz,DA⟩:=aP7 wj;have afn:∀ (w:World) (a:Option Addr) (n c mV cn:Nat),(binOp .eql 46 (.slice a n c) (.slice none mV cn)).run prog w= .ok (.bool a.isNone) w:=λ w a n c mV cn=>aPK w _ _ a n c mV cn underlying46;cases A with
 | none =>
  obtain rfl:c=0:=h.2.2.2.1 rfl;obtain rfl:l= []:=aM3 (by have:=h.1;omega);go_enter func65,ntmps65;go_wp2_with fail
  go_ret;exact ⟨none,0,Z,Φ.aL.nil _,by simp,aNb _ _⟩
 | some a =>
  have cS:Below w.heap.size w (w.alloc (.cells #[] 3)):=(aNb _ w).alloc (aMO _) _;obtain ⟨n,jg⟩:∃ n,Hid (l.length=n):=⟨_,aMH rfl⟩;obtain ⟨κ,τ,aq,bb,ess,bT,cy⟩:=h.keep cS;have Hv:=aMH bT;have tI:∀ u∈ess.flatten,u.oneCell'=true:=by
   intro u hu;obtain ⟨y,aH,hu⟩:=aNJ.1 hu;obtain ⟨a,ha⟩:=bT.left y aH;exact bz.one ha u hu
  have yn:∀ (j:Nat) u,ess.flatten[j]? =some u→bz.raw (j % bz.size) u:=λ j u hu=>Na bT (by decide) hu;rw [jg.out] at κ aq cy;have o3:=aMH cy;have qQ:=aMH (Own.empty (e:= 3) (size:=bz.size) (G:=bz.raw) w (aMO w.heap.size));clear h bb bT cy;rw [jg.out];go_enter func65,ntmps65;go_wp2_with (at_builtin;refine VO _ rfl _ _ 46 rfl w.heap.size 3 i0 (.int .i64 0) bz.size 8 underlying46 ak BI Dz DA rfl (by decide) bz.raw aBp _ _ _ rfl qQ.out (some a) n c ess.flatten rfl o3.out tI yn ?qc4 ?qc5 ?qc6 ?_)
  case qc4=>unfold maxLen;omega
  case qc5=>omega
  case qc6=>simp
  intro v' aM js p' vX gg;have dM:=cS.grown p' (by simp) (by intro k aj;simp [Value.ownBlock] at aj;omega);obtain ⟨cc,bd,rfl,hle,_,_,_,l'⟩:=js.shape;have kQ:cc≠none:=by
   intro h;subst h;exact vX (l' Z)
  have bc:Hid (bz.aL 3 8 aM w.heap.size (Φ.ab cc) cc bd l):=aMH (Φ.aL.GB ax7 Hv.out (by rw [jg.out];exact aq) (by rw [jg.out];simpa using js));have y9:=aMH kQ;clear p' vX gg js kQ l' tI yn;go_wp2_with fail
  go_ret;exact ⟨cc,bd,Z,bc.out,⟨λ h=>absurd h y9.out,λ h=>by cases h⟩,dM⟩
theorem Mq (A:Option Addr) (c:Nat) (l:List ai) (w:World) (h:ai.rep.aQ 16 w A c l):
  Calls prog 64 #[.slice A l.length c] w λ e w'=>∃ bR cn,e= .returned (.slice bR l.length cn)∧ai.rep.aL 98 16 w' w.heap.size (Φ.ab bR) bR cn l∧(bR=none↔A=none)∧Below w.heap.size w w':=by
 obtain ⟨i0,ak,BI,Dz,DA⟩:=aP7 ai.info;have afn:∀ (w:World) (a:Option Addr) (n c mV cn:Nat),(binOp .eql 49 (.slice a n c) (.slice none mV cn)).run prog w= .ok (.bool a.isNone) w:=λ w a n c mV cn=>aPK w _ _ a n c mV cn underlying49;cases A with
 | none =>
  obtain rfl:c=0:=h.2.2.2.1 rfl;obtain rfl:l= []:=aM3 (by have:=h.1;omega);go_enter func64,ntmps64;go_wp2_with fail
  go_ret;exact ⟨none,0,Z,Φ.aL.nil _,by simp,aNb _ _⟩
 | some a =>
  have cS:Below w.heap.size w (w.alloc (.cells #[] 98)):=(aNb _ w).alloc (aMO _) _;obtain ⟨n,jg⟩:∃ n,Hid (l.length=n):=⟨_,aMH rfl⟩;obtain ⟨κ,τ,aq,bb,ess,bT,cy⟩:=h.keep cS;have Hv:=aMH bT;have tI:∀ u∈ess.flatten,u.oneCell'=true:=by
   intro u hu;obtain ⟨y,aH,hu⟩:=aNJ.1 hu;obtain ⟨a,ha⟩:=bT.left y aH;exact ai.rep.one ha u hu
  have yn:∀ (j:Nat) u,ess.flatten[j]? =some u→ai.rep.raw (j % ai.rep.size) u:=λ j u hu=>Na bT (by decide) hu;rw [jg.out] at κ aq cy;have o3:=aMH cy;have qQ:=aMH (Own.empty (e:= 98) (size:=ai.rep.size) (G:=ai.rep.raw) w (aMO w.heap.size));clear h bb bT cy;rw [jg.out];go_enter func64,ntmps64;go_wp2_with (at_builtin;refine VO _ rfl _ _ 49 rfl w.heap.size 98 i0 ai.zero ai.rep.size 16 underlying49 ak BI Dz DA rfl (by decide) ai.rep.raw ai.k3 _ _ _ rfl qQ.out (some a) n c ess.flatten rfl o3.out tI yn ?qc4 ?qc5 ?qc6 ?_)
  case qc4=>unfold maxLen;omega
  case qc5=>omega
  case qc6=>simp
  intro v' aM js p' vX gg;have dM:=cS.grown p' (by simp) (by intro k aj;simp [Value.ownBlock] at aj;omega);obtain ⟨cc,bd,rfl,hle,_,_,_,l'⟩:=js.shape;have kQ:cc≠none:=by
   intro h;subst h;exact vX (l' Z)
  have bc:Hid (ai.rep.aL 98 16 aM w.heap.size (Φ.ab cc) cc bd l):=aMH (Φ.aL.GB ai.plain Hv.out (by rw [jg.out];exact aq) (by rw [jg.out];simpa using js));have y9:=aMH kQ;clear p' vX gg js kQ l' tI yn;go_wp2_with fail
  go_ret;exact ⟨cc,bd,Z,bc.out,⟨λ h=>absurd h y9.out,λ h=>by cases h⟩,dM⟩
theorem Mr (A:Option Addr) (c:Nat) (l:List a8) (w:World) (h:a8.rep.aQ 56 w A c l):
  Calls prog 69 #[.slice A l.length c] w λ e w'=>∃ bR cn,e= .returned (.slice bR l.length cn)∧a8.rep.aL 108 56 w' w.heap.size (Φ.ab bR) bR cn l∧(bR=none↔A=none)∧Below w.heap.size w w':=by
 obtain ⟨i0,ak,BI,Dz,DA⟩:=aP7 a8.info;have afn:∀ (w:World) (a:Option Addr) (n c mV cn:Nat),(binOp .eql 50 (.slice a n c) (.slice none mV cn)).run prog w= .ok (.bool a.isNone) w:=λ w a n c mV cn=>aPK w _ _ a n c mV cn underlying50;cases A with
 | none =>
  obtain rfl:c=0:=h.2.2.2.1 rfl;obtain rfl:l= []:=aM3 (by have:=h.1;omega);go_enter func69,ntmps69;go_wp2_with fail
  go_ret;exact ⟨none,0,Z,Φ.aL.nil _,by simp,aNb _ _⟩
 | some a =>
  have cS:Below w.heap.size w (w.alloc (.cells #[] 108)):=(aNb _ w).alloc (aMO _) _;obtain ⟨n,jg⟩:∃ n,Hid (l.length=n):=⟨_,aMH rfl⟩;obtain ⟨κ,τ,aq,bb,ess,bT,cy⟩:=h.keep cS;have Hv:=aMH bT;have tI:∀ u∈ess.flatten,u.oneCell'=true:=by
   intro u hu;obtain ⟨y,aH,hu⟩:=aNJ.1 hu;obtain ⟨a,ha⟩:=bT.left y aH;exact a8.rep.one ha u hu
  have yn:∀ (j:Nat) u,ess.flatten[j]? =some u→a8.rep.raw (j % a8.rep.size) u:=λ j u hu=>Na bT (by decide) hu;rw [jg.out] at κ aq cy;have o3:=aMH cy;have qQ:=aMH (Own.empty (e:= 108) (size:=a8.rep.size) (G:=a8.rep.raw) w (aMO w.heap.size));clear h bb bT cy;rw [jg.out];go_enter func69,ntmps69;go_wp2_with (at_builtin;refine VO _ rfl _ _ 50 rfl w.heap.size 108 i0 a8.zero a8.rep.size 56 underlying50 ak BI Dz DA rfl (by decide) a8.rep.raw a8.k3 _ _ _ rfl qQ.out (some a) n c ess.flatten rfl o3.out tI yn ?qc4 ?qc5 ?qc6 ?_)
  case qc4=>unfold maxLen;omega
  case qc5=>omega
  case qc6=>simp
  intro v' aM js p' vX gg;have dM:=cS.grown p' (by simp) (by intro k aj;simp [Value.ownBlock] at aj;omega);obtain ⟨cc,bd,rfl,hle,_,_,_,l'⟩:=js.shape;have kQ:cc≠none:=by
   intro h;subst h;exact vX (l' Z)
  have bc:Hid (a8.rep.aL 108 56 aM w.heap.size (Φ.ab cc) cc bd l):=aMH (Φ.aL.GB a8.plain Hv.out (by rw [jg.out];exact aq) (by rw [jg.out];simpa using js));have y9:=aMH kQ;clear p' vX gg js kQ l' tI yn;go_wp2_with fail
  go_ret;exact ⟨cc,bd,Z,bc.out,⟨λ h=>absurd h y9.out,λ h=>by cases h⟩,dM⟩
end Go.Proofs.YthlpmldmhakhaaaGreatDoor
