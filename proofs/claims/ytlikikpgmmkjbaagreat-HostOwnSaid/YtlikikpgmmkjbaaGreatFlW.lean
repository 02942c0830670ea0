import Derived.Test.YtlikikpgmmkjbaaGreatOrds
set_option linter.unusedVariables false
set_option linter.unusedSimpArgs false
set_option maxRecDepth 100000
set_option maxHeartbeats 4000000
open Go.RowKit
namespace Go.Proofs.YtlikikpgmmkjbaaGreat
open Tryz
abbrev aVx:=@List.flatMap_append
abbrev aVS:=@List.flatMap_cons
abbrev aWx:=@List.flatMap_nil
abbrev aYL:=@Option.map_eq_none_iff
section
theorem apA:fa prog dy.rep 123 223 16:=fa.lK (z:=dy.zero) (k:=2) underlying123 dy.info rfl rfl (by decide) dy.iY
theorem apB:fa prog dz.rep 124 225 24:=fa.lK (z:=dz.zero) (k:=3) underlying124 dz.info rfl rfl (by decide) dz.iY
theorem UL:fa prog ct.rep 125 178 40:=fa.lK (z:=ct.zero) (k:=5) underlying125 ct.info rfl rfl (by decide) ct.iY
def nR (o:aO):List dy:=if o.kind=1 then [⟨o.aU,o.what⟩] else []
def nT (o:aO):List dz:=if o.kind=2 then [⟨o.aU,⟨o.spot.x,o.spot.y⟩⟩] else []
def nS (o:aO):List ct:=if o.kind=3 then [⟨1,o.aU,⟨o.spot.x,o.spot.y⟩,0⟩] else if o.kind=4 then [⟨2,o.aU,⟨0,0⟩,0⟩] else if o.kind=5 then [⟨3,o.by_,⟨0,0⟩,o.what⟩] else []
theorem ac8 (o:aO) (w0:World) (uq:Nat) (A B C:Option Addr) (a b c:Nat) (tz:List dy) (ye:List dz) (zH:List ct) (w:World) (ji:Ext w0 w) (dS:o.ok) (hS:aN w uq [.slice A tz.length a, .slice B ye.length b, .slice C zH.length c] 169 (0,0)) (hA:dy.rep.aD 223 16 w w0.heap.size (κ.ae A) A a tz) (ba:dz.rep.aD 225 24 w w0.heap.size (κ.ae B) B b ye) (eg:ct.rep.aD 178 40 w w0.heap.size (κ.ae C) C c zH) (vN:∀ q∈κ.ae A,q=uq→False) (vO:∀ q∈κ.ae B,q=uq→False) (sX:∀ q∈κ.ae C,q=uq→False) (CZ:∀ q∈κ.ae B,q∈κ.ae A→False) (y2:∀ q∈κ.ae C,q∈κ.ae A→False) (y3:∀ q∈κ.ae C,q∈κ.ae B→False) (Gm:tz.length≤100) (uY:ye.length≤100) (qb:zH.length≤100):
  Calls prog 94 #[.pointer (some ⟨uq,0,none⟩), .agg #[.int .i64 o.by_, .int .i64 o.kind, .int .i64 o.aU, .int .i64 o.spot.x, .int .i64 o.spot.y, .int .i64 o.what]] w (λ e w'=>∃ bL a' rp rH EI b_,e= .returned (.tuple #[])∧aN w' uq [.slice bL (tz++nR o).length a', .slice rp (ye++nT o).length rH, .slice EI (zH++nS o).length b_] 169 (0,0)∧dy.rep.aD 223 16 w' w0.heap.size (κ.ae bL) bL a' (tz++nR o)∧dz.rep.aD 225 24 w' w0.heap.size (κ.ae rp) rp rH (ye++nT o)∧ct.rep.aD 178 40 w' w0.heap.size (κ.ae EI) EI b_ (zH++nS o)∧(∀ q∈κ.ae bL,q=uq→False)∧(∀ q∈κ.ae rp,q=uq→False)∧(∀ q∈κ.ae EI,q=uq→False)∧(∀ q∈κ.ae rp,q∈κ.ae bL→False)∧(∀ q∈κ.ae EI,q∈κ.ae bL→False)∧(∀ q∈κ.ae EI,q∈κ.ae rp→False)∧(∀ q∈κ.ae bL,q∈κ.ae A∨w.heap.size≤q)∧(∀ q∈κ.ae rp,q∈κ.ae B∨w.heap.size≤q)∧(∀ q∈κ.ae EI,q∈κ.ae C∨w.heap.size≤q)∧Mod (uq::(κ.ae A++(κ.ae B++κ.ae C))) w w'):=by
 have aMS:=ji.size;have kX:=hS.lt;have N2:=λ q I=>(hA.lt q I).2;have Jy:=λ q I=>(ba.lt q I).2;have amk:=λ q I=>(eg.lt q I).2;have aNk:∀ q∈κ.ae A,w0.heap.size≤q:=λ q I=>(hA.lt q I).1;have Yn:∀ q∈κ.ae B,w0.heap.size≤q:=λ q I=>(ba.lt q I).1;have aNl:∀ q∈κ.ae C,w0.heap.size≤q:=λ q I=>(eg.lt q I).1;refine cl (n:=84) func94 Z Z Z ?_;refine ai<|cI Z Z Z Z λ cW bw a7 eA ab=> ?_;have:=a7.size;have bk:=(Mod.bK (uq::(κ.ae A++(κ.ae B++κ.ae C))) w).trans (Mod.bF a7);have eG:=ab.lt;refine ag<|ai<|J (au pN Z)<|J (ak Z (ab.one bf Z))<|ag<|bA<|ai<|J (beq Z Z)<|va Z<|ag<| ?_;refine kj Z (λ qM=> ?_) (λ qM=> ?_)
 ·refine rd [(4,0),(6,0),(8,0),(10,2),(11,3),(14,3)] [0,1,2,3,4,5,6,7,8,9,10,11,12,13,14] (by kernel_rfl) (by kernel_rfl) ?_;refine ar Z (λ _=>aM Z)<|ar Z (λ _=>aM Z)<|ar Z (λ _=>b6 Z)<|ar Z (λ _=>au VI Z)<| ?_;have hS:=hS.later a7;refine bG Z (λ _ x=>ak Z ((hS.later x).one afg Z))<|ar Z (λ _=>au C3 Z)<|bG Z (λ _ x=>ak Z ((ab.later x).one bf Z))<|ar Z (λ _=>au C5 Z)<|bG Z (λ _ x=>ak Z ((ab.later x).one bf Z))<|rU (v:= .agg #[.int .i64 o.aU, .int .i64 o.what]) Z Z (λ _=>cM Z (by kernel_rfl)) Z<|fS Z Z Z λ wK bo Q hK=>c6 (e:= 223) (cs:= [.int .i64 o.aU, .int .i64 o.what]) Z (λ _=>by kernel_rfl) Z λ wI yZ dC Nb gj=>hK _ _ ⟨τ bo dC, ?_⟩;have:=bo.size;have kE:=bk.trans (Mod.bF bo);have:=dC.size;have kB:=kE.trans (Mod.bF dC);have aC6:=gj.lt;have hA:=hA.later (τ a7 (τ bo dC));refine en Z Z Z λ JJ vd Q hK=>ap apA κ.dE (hA.later vd) ((aN.gM (R:=dy.rep) (by_:=16) (q:=(⟨o.aU,o.what⟩:dy)) gj ⟨Z,(by obtain ⟨Gn,pa,l4,nP,ov,qc⟩:=dS;exact ⟨l4,qc⟩)⟩ (by decide)).keep vd) Z Z (by simp only [aUn,aUt];omega) (by simp only [aUn,aUt];omega) (by have:=vd.size;omega) Z λ z6 EE Vj lI uf H9 aBx=>hK _ _ ?_;have:=vd.size;have vl:=kB.trans (Mod.bF vd);have:=lI.size;have lu:=vl.md lI (λ q I=> .inl (aUB _ (aUy.2 (.inl I))));have amx:=λ q I=>(uf.lt q I).2;have:=lI.size;refine ar Z (λ _=>b6 Z)<|ar Z (λ _=>au VI Z)<| ?_;have hS:=hS.later (τ bo (τ dC vd));have hS:=hS.mod lI (λ I=>vN _ I rfl);refine en Z Z Z λ z8 h1 Q hK=>st (new:= [.slice EE ((tz++ [(⟨o.aU,o.what⟩:dy)]).length) Vj, .slice B ye.length b, .slice C zH.length c]) Z Z (hS.later h1) Z atk Z Z Z λ GK kc hS=>hK _ _ ?_;have:=h1.size;have mD:=lu.trans (Mod.bF h1);have:=kc.size;have rf:=mD.md kc (λ q I=> .inl (by rw [aUg.1 I];exact aUH));refine fn λ wJ e4=> ?_;have:=e4.size;have ma:=rf.trans (Mod.bF e4);refine bX<|ne<|bb .nil<| ?_;have hS:=hS.later e4;have uf:=uf.later h1;have uf:=uf.mod kc (λ q I h=>by have Φ:=aUg.1 h;exfalso;(exact aUw (H9 q I) (λ ajf=>by (exact vN q ajf Φ)) (λ ajf=>by omega)));have uf:=uf.later e4;have ba:=ba.later (τ a7 (τ bo (τ dC vd)));have ba:=ba.mod lI (λ q I h=>CZ q I h);have ba:=ba.later h1;have ba:=ba.mod kc (λ q I h=>by have Φ:=aUg.1 h;exfalso;(exact vO q I Φ));have ba:=ba.later e4;have eg:=eg.later (τ a7 (τ bo (τ dC vd)));have eg:=eg.mod lI (λ q I h=>y2 q I h);have eg:=eg.later h1;have eg:=eg.mod kc (λ q I h=>by have Φ:=aUg.1 h;exfalso;(exact sX q I Φ));have eg:=eg.later e4;have a8:nR o= [(⟨o.aU,o.what⟩:dy)]:=by unfold nR;simp [*]
  have bl:nT o= []:=by unfold nT;simp [*]
  have cZ:nS o= []:=by unfold nS;simp [*]
  rw [a8,bl,cZ];simp only [aUV];exact ⟨EE,Vj,B,b,C,c,Z,hS,uf,ba,eg,(λ q I Φ=>by (exact aUw (H9 q I) (λ ajg=>by (exact vN q ajg Φ)) (λ ajg=>by omega))),(λ q I Φ=>by (exact vO q I Φ)),(λ q I Φ=>by (exact sX q I Φ)),(λ q I Φ=>by (exact aUw (H9 q Φ) (λ ajh=>by (exact CZ q I ajh)) (λ ajh=>by (have:=Jy q I;omega)))),(λ q I Φ=>by (exact aUw (H9 q Φ) (λ RS=>by (exact y2 q I RS)) (λ RS=>by (have:=amk q I;omega)))),(λ q I Φ=>by (exact y3 q I Φ)),(λ q I=>(H9 q I).imp id λ h=>by omega),(λ q I=> .inl I),(λ q I=> .inl I),ma⟩
 ·refine ai<|J (beq Z Z)<|va Z<|ag<| ?_;refine kj Z (λ LR=> ?_) (λ LR=> ?_)
  ·refine rd [(4,0),(6,0),(8,0),(10,2),(11,3),(14,3)] [0,1,2,3,4,5,6,7,8,9,10,11,12,13,14] (by kernel_rfl) (by kernel_rfl) ?_;refine ar Z (λ _=>aM Z)<|ar Z (λ _=>aM Z)<|ar Z (λ _=>b6 Z)<|ar Z (λ _=>au VJ Z)<| ?_;have hS:=hS.later a7;refine bG Z (λ _ x=>ak Z ((hS.later x).one afh Z))<|ar Z (λ _=>au C3 Z)<|bG Z (λ _ x=>ak Z ((ab.later x).one bf Z))<|ar Z (λ _=>au C4 Z)<|bG Z (λ _ x=>ak Z ((ab.later x).par [.int .i64 o.spot.x, .int .i64 o.spot.y] cm bW Z))<|rU (v:= .agg #[.int .i64 o.aU, .int .i64 o.spot.x, .int .i64 o.spot.y]) Z Z (λ _=>cM Z (by kernel_rfl)) Z<|fS Z Z Z λ GL hQ Q hK=>c6 (e:= 225) (cs:= [.int .i64 o.aU, .int .i64 o.spot.x, .int .i64 o.spot.y]) Z (λ _=>by kernel_rfl) Z λ Tm AR e6 ajJ vx=>hK _ _ ⟨τ hQ e6, ?_⟩;have:=hQ.size;have tQ:=bk.trans (Mod.bF hQ);have:=e6.size;have Cb:=tQ.trans (Mod.bF e6);have Gt:=vx.lt;have ba:=ba.later (τ a7 (τ hQ e6));refine en Z Z Z λ q7 eu Q hK=>ap apB κ.dE (ba.later eu) ((aN.gM (R:=dz.rep) (by_:=24) (q:=(⟨o.aU,⟨o.spot.x,o.spot.y⟩⟩:dz)) vx ⟨Z,(by obtain ⟨Gn,pa,l4,nP,ov,qc⟩:=dS;exact ⟨l4,nP,ov⟩)⟩ (by decide)).keep eu) Z Z (by simp only [aUn,aUt];omega) (by simp only [aUn,aUt];omega) (by have:=eu.size;omega) Z λ aan abe adO zz CI Lx aPF=>hK _ _ ?_;have:=eu.size;have ih:=Cb.trans (Mod.bF eu);have:=zz.size;have Cd:=ih.md zz (λ q I=> .inl (aUB _ (aUy.2 (.inr (aUy.2 (.inl I))))));have S8:=λ q I=>(CI.lt q I).2;have:=zz.size;refine ar Z (λ _=>b6 Z)<|ar Z (λ _=>au VJ Z)<| ?_;have hS:=hS.later (τ hQ (τ e6 eu));have hS:=hS.mod zz (λ I=>vO _ I rfl);refine en Z Z Z λ Ok rb Q hK=>st (new:= [.slice A tz.length a, .slice abe ((ye++ [(⟨o.aU,⟨o.spot.x,o.spot.y⟩⟩:dz)]).length) adO, .slice C zH.length c]) Z Z (hS.later rb) Z atl Z Z Z λ Tr mq hS=>hK _ _ ?_;have:=rb.size;have yy:=Cd.trans (Mod.bF rb);have:=mq.size;have Cf:=yy.md mq (λ q I=> .inl (by rw [aUg.1 I];exact aUH));refine fn λ Tt dM=> ?_;have:=dM.size;have tS:=Cf.trans (Mod.bF dM);refine bX<|ne<|bb .nil<| ?_;have hS:=hS.later dM;have hA:=hA.later (τ a7 (τ hQ (τ e6 eu)));have hA:=hA.mod zz (λ q I h=>CZ q h I);have hA:=hA.later rb;have hA:=hA.mod mq (λ q I h=>by have Φ:=aUg.1 h;exfalso;(exact vN q I Φ));have hA:=hA.later dM;have CI:=CI.later rb;have CI:=CI.mod mq (λ q I h=>by have Φ:=aUg.1 h;exfalso;(exact aUw (Lx q I) (λ M8=>by (exact vO q M8 Φ)) (λ M8=>by omega)));have CI:=CI.later dM;have eg:=eg.later (τ a7 (τ hQ (τ e6 eu)));have eg:=eg.mod zz (λ q I h=>y3 q I h);have eg:=eg.later rb;have eg:=eg.mod mq (λ q I h=>by have Φ:=aUg.1 h;exfalso;(exact sX q I Φ));have eg:=eg.later dM;have a8:nR o= []:=by unfold nR;simp [*]
   have bl:nT o= [(⟨o.aU,⟨o.spot.x,o.spot.y⟩⟩:dz)]:=by unfold nT;simp [*]
   have cZ:nS o= []:=by unfold nS;simp [*]
   rw [a8,bl,cZ];simp only [aUV];exact ⟨A,a,abe,adO,C,c,Z,hS,hA,CI,eg,(λ q I Φ=>by (exact vN q I Φ)),(λ q I Φ=>by (exact aUw (Lx q I) (λ ajo=>by (exact vO q ajo Φ)) (λ ajo=>by omega))),(λ q I Φ=>by (exact sX q I Φ)),(λ q I Φ=>by (exact aUw (Lx q I) (λ DJ=>by (exact CZ q DJ Φ)) (λ DJ=>by (have:=N2 q Φ;omega)))),(λ q I Φ=>by (exact y2 q I Φ)),(λ q I Φ=>by (exact aUw (Lx q Φ) (λ M9=>by (exact y3 q I M9)) (λ M9=>by (have:=amk q I;omega)))),(λ q I=> .inl I),(λ q I=>(Lx q I).imp id λ h=>by omega),(λ q I=> .inl I),tS⟩
  ·refine ai<|J (beq Z Z)<|va Z<|ag<| ?_;refine kj Z (λ uF=> ?_) (λ uF=> ?_)
   ·refine rd [(4,0),(6,0),(8,0),(10,2),(11,3),(14,3)] [0,1,2,3,4,5,6,7,8,9,10,11,12,13,14] (by kernel_rfl) (by kernel_rfl) ?_;refine ar Z (λ _=>aM Z)<|ar Z (λ _=>aM Z)<|ar Z (λ _=>b6 Z)<|ar Z (λ _=>au Fm Z)<| ?_;have hS:=hS.later a7;refine bG Z (λ _ x=>ak Z ((hS.later x).one Qr Z))<|ar Z (λ _=>au C3 Z)<|bG Z (λ _ x=>ak Z ((ab.later x).one bf Z))<|ar Z (λ _=>au C4 Z)<|bG Z (λ _ x=>ak Z ((ab.later x).par [.int .i64 o.spot.x, .int .i64 o.spot.y] cm bW Z))<|rU (v:= .agg #[.int .i64 1, .int .i64 o.aU, .int .i64 o.spot.x, .int .i64 o.spot.y, .int .i64 0]) Z Z (λ _=>cM Z (by kernel_rfl)) Z<|fS Z Z Z λ BX fE Q hK=>c6 (e:= 178) (cs:= [.int .i64 1, .int .i64 o.aU, .int .i64 o.spot.x, .int .i64 o.spot.y, .int .i64 0]) Z (λ _=>by kernel_rfl) Z λ JU aKk sz aOv O5=>hK _ _ ⟨τ fE sz, ?_⟩;have:=fE.size;have wY:=bk.trans (Mod.bF fE);have:=sz.size;have k5:=wY.trans (Mod.bF sz);have aDp:=O5.lt;have eg:=eg.later (τ a7 (τ fE sz));refine en Z Z Z λ yo Ex Q hK=>ap UL κ.dE (eg.later Ex) ((aN.gM (R:=ct.rep) (by_:=40) (q:=(⟨1,o.aU,⟨o.spot.x,o.spot.y⟩,0⟩:ct)) O5 ⟨Z,(by obtain ⟨Gn,pa,l4,nP,ov,qc⟩:=dS;exact ⟨bN.2 (by (try dsimp only);omega),l4,nP,ov,bN.2 (by (try dsimp only);omega)⟩)⟩ (by decide)).keep Ex) Z Z (by simp only [aUn,aUt];omega) (by simp only [aUn,aUt];omega) (by have:=Ex.size;omega) Z λ am2 abg adP x0 CA Lr aPd=>hK _ _ ?_;have:=Ex.size;have Ck:=k5.trans (Mod.bF Ex);have:=x0.size;have ON:=Ck.md x0 (λ q I=> .inl (aUB _ (aUy.2 (.inr (aUy.2 (.inr I))))));have aRX:=λ q I=>(CA.lt q I).2;have:=x0.size;refine ar Z (λ _=>b6 Z)<|ar Z (λ _=>au Fm Z)<| ?_;have hS:=hS.later (τ fE (τ sz Ex));have hS:=hS.mod x0 (λ I=>sX _ I rfl);refine en Z Z Z λ aGa jY Q hK=>st (new:= [.slice A tz.length a, .slice B ye.length b, .slice abg ((zH++ [(⟨1,o.aU,⟨o.spot.x,o.spot.y⟩,0⟩:ct)]).length) adP]) Z Z (hS.later jY) Z VK Z Z Z λ aGb uS hS=>hK _ _ ?_;have:=jY.size;have aaD:=ON.trans (Mod.bF jY);have:=uS.size;have aaE:=aaD.md uS (λ q I=> .inl (by rw [aUg.1 I];exact aUH));refine fn λ aag u'=> ?_;have:=u'.size;have G1:=aaE.trans (Mod.bF u');refine bX<|ne<|bb .nil<| ?_;have hS:=hS.later u';have hA:=hA.later (τ a7 (τ fE (τ sz Ex)));have hA:=hA.mod x0 (λ q I h=>y2 q h I);have hA:=hA.later jY;have hA:=hA.mod uS (λ q I h=>by have Φ:=aUg.1 h;exfalso;(exact vN q I Φ));have hA:=hA.later u';have ba:=ba.later (τ a7 (τ fE (τ sz Ex)));have ba:=ba.mod x0 (λ q I h=>y3 q h I);have ba:=ba.later jY;have ba:=ba.mod uS (λ q I h=>by have Φ:=aUg.1 h;exfalso;(exact vO q I Φ));have ba:=ba.later u';have CA:=CA.later jY;have CA:=CA.mod uS (λ q I h=>by have Φ:=aUg.1 h;exfalso;(exact aUw (Lr q I) (λ DG=>by (exact sX q DG Φ)) (λ DG=>by omega)));have CA:=CA.later u';have a8:nR o= []:=by unfold nR;simp [*]
    have bl:nT o= []:=by unfold nT;simp [*]
    have cZ:nS o= [(⟨1,o.aU,⟨o.spot.x,o.spot.y⟩,0⟩:ct)]:=by unfold nS;simp [*]
    rw [a8,bl,cZ];simp only [aUV];exact ⟨A,a,B,b,abg,adP,Z,hS,hA,ba,CA,(λ q I Φ=>by (exact vN q I Φ)),(λ q I Φ=>by (exact vO q I Φ)),(λ q I Φ=>by (exact aUw (Lr q I) (λ MJ=>by (exact sX q MJ Φ)) (λ MJ=>by omega))),(λ q I Φ=>by (exact CZ q I Φ)),(λ q I Φ=>by (exact aUw (Lr q I) (λ MK=>by (exact y2 q MK Φ)) (λ MK=>by (have:=N2 q Φ;omega)))),(λ q I Φ=>by (exact aUw (Lr q I) (λ ML=>by (exact y3 q ML Φ)) (λ ML=>by (have:=Jy q Φ;omega)))),(λ q I=> .inl I),(λ q I=> .inl I),(λ q I=>(Lr q I).imp id λ h=>by omega),G1⟩
   ·refine ai<|J (beq Z Z)<|va Z<|ag<| ?_;refine kj Z (λ awf=> ?_) (λ awf=> ?_)
    ·refine rd [(4,0),(6,0),(8,2),(9,3),(12,3)] [0,1,2,3,4,5,6,7,8,9,10,11,12] (by kernel_rfl) (by kernel_rfl) ?_;refine ar Z (λ _=>aM Z)<|ar Z (λ _=>aM Z)<|ar Z (λ _=>b6 Z)<|ar Z (λ _=>au Fm Z)<| ?_;have hS:=hS.later a7;refine bG Z (λ _ x=>ak Z ((hS.later x).one Qr Z))<|ar Z (λ _=>au C3 Z)<|bG Z (λ _ x=>ak Z ((ab.later x).one bf Z))<|rU (v:= .agg #[.int .i64 2, .int .i64 o.aU, .int .i64 0, .int .i64 0, .int .i64 0]) Z Z (λ _=>cM Z (by kernel_rfl)) Z<|fS Z Z Z λ amN GQ Q hK=>c6 (e:= 178) (cs:= [.int .i64 2, .int .i64 o.aU, .int .i64 0, .int .i64 0, .int .i64 0]) Z (λ _=>by kernel_rfl) Z λ aS9 aJK GR aNG abt=>hK _ _ ⟨τ GQ GR, ?_⟩;have:=GQ.size;have J6:=bk.trans (Mod.bF GQ);have:=GR.size;have aHo:=J6.trans (Mod.bF GR);have aQk:=abt.lt;have eg:=eg.later (τ a7 (τ GQ GR));refine en Z Z Z λ amP Ep Q hK=>ap UL κ.dE (eg.later Ep) ((aN.gM (R:=ct.rep) (by_:=40) (q:=(⟨2,o.aU,⟨0,0⟩,0⟩:ct)) abt ⟨Z,(by obtain ⟨Gn,pa,l4,nP,ov,qc⟩:=dS;exact ⟨bN.2 (by (try dsimp only);omega),l4,bN.2 (by (try dsimp only);omega),bN.2 (by (try dsimp only);omega),bN.2 (by (try dsimp only);omega)⟩)⟩ (by decide)).keep Ep) Z Z (by simp only [aUn,aUt];omega) (by simp only [aUn,aUt];omega) (by have:=Ep.size;omega) Z λ amQ aa6 adG I1 CB Lt aPk=>hK _ _ ?_;have:=Ep.size;have OA:=aHo.trans (Mod.bF Ep);have:=I1.size;have B_:=OA.md I1 (λ q I=> .inl (aUB _ (aUy.2 (.inr (aUy.2 (.inr I))))));have aR4:=λ q I=>(CB.lt q I).2;have:=I1.size;refine ar Z (λ _=>b6 Z)<|ar Z (λ _=>au Fm Z)<| ?_;have hS:=hS.later (τ GQ (τ GR Ep));have hS:=hS.mod I1 (λ I=>sX _ I rfl);refine en Z Z Z λ aGl nX Q hK=>st (new:= [.slice A tz.length a, .slice B ye.length b, .slice aa6 ((zH++ [(⟨2,o.aU,⟨0,0⟩,0⟩:ct)]).length) adG]) Z Z (hS.later nX) Z VK Z Z Z λ aaj Bv hS=>hK _ _ ?_;have:=nX.size;have aaL:=B_.trans (Mod.bF nX);have:=Bv.size;have Ey:=aaL.md Bv (λ q I=> .inl (by rw [aUg.1 I];exact aUH));refine fn λ aTg qk=> ?_;have:=qk.size;have aHv:=Ey.trans (Mod.bF qk);refine bX<|ne<|bb .nil<| ?_;have hS:=hS.later qk;have hA:=hA.later (τ a7 (τ GQ (τ GR Ep)));have hA:=hA.mod I1 (λ q I h=>y2 q h I);have hA:=hA.later nX;have hA:=hA.mod Bv (λ q I h=>by have Φ:=aUg.1 h;exfalso;(exact vN q I Φ));have hA:=hA.later qk;have ba:=ba.later (τ a7 (τ GQ (τ GR Ep)));have ba:=ba.mod I1 (λ q I h=>y3 q h I);have ba:=ba.later nX;have ba:=ba.mod Bv (λ q I h=>by have Φ:=aUg.1 h;exfalso;(exact vO q I Φ));have ba:=ba.later qk;have CB:=CB.later nX;have CB:=CB.mod Bv (λ q I h=>by have Φ:=aUg.1 h;exfalso;(exact aUw (Lt q I) (λ DH=>by (exact sX q DH Φ)) (λ DH=>by omega)));have CB:=CB.later qk;have a8:nR o= []:=by unfold nR;simp [*]
     have bl:nT o= []:=by unfold nT;simp [*]
     have cZ:nS o= [(⟨2,o.aU,⟨0,0⟩,0⟩:ct)]:=by unfold nS;simp [*]
     rw [a8,bl,cZ];simp only [aUV];exact ⟨A,a,B,b,aa6,adG,Z,hS,hA,ba,CB,(λ q I Φ=>by (exact vN q I Φ)),(λ q I Φ=>by (exact vO q I Φ)),(λ q I Φ=>by (exact aUw (Lt q I) (λ MO=>by (exact sX q MO Φ)) (λ MO=>by omega))),(λ q I Φ=>by (exact CZ q I Φ)),(λ q I Φ=>by (exact aUw (Lt q I) (λ MP=>by (exact y2 q MP Φ)) (λ MP=>by (have:=N2 q Φ;omega)))),(λ q I Φ=>by (exact aUw (Lt q I) (λ MQ=>by (exact y3 q MQ Φ)) (λ MQ=>by (have:=Jy q Φ;omega)))),(λ q I=> .inl I),(λ q I=> .inl I),(λ q I=>(Lt q I).imp id λ h=>by omega),aHv⟩
    ·refine ai<|J (beq Z Z)<|va Z<|ag<| ?_;refine kj Z (λ awl=> ?_) (λ awl=> ?_)
     ·refine rd [(4,0),(6,0),(8,0),(10,2),(11,3),(14,3)] [0,1,2,3,4,5,6,7,8,9,10,11,12,13,14] (by kernel_rfl) (by kernel_rfl) ?_;refine ar Z (λ _=>aM Z)<|ar Z (λ _=>aM Z)<|ar Z (λ _=>b6 Z)<|ar Z (λ _=>au Fm Z)<| ?_;have hS:=hS.later a7;refine bG Z (λ _ x=>ak Z ((hS.later x).one Qr Z))<|ar Z (λ _=>au pO Z)<|bG Z (λ _ x=>ak Z ((ab.later x).one bf Z))<|ar Z (λ _=>au C5 Z)<|bG Z (λ _ x=>ak Z ((ab.later x).one bf Z))<|rU (v:= .agg #[.int .i64 3, .int .i64 o.by_, .int .i64 0, .int .i64 0, .int .i64 o.what]) Z Z (λ _=>cM Z (by kernel_rfl)) Z<|fS Z Z Z λ Oc GX Q hK=>c6 (e:= 178) (cs:= [.int .i64 3, .int .i64 o.by_, .int .i64 0, .int .i64 0, .int .i64 o.what]) Z (λ _=>by kernel_rfl) Z λ aGm aJR GY aNP abz=>hK _ _ ⟨τ GX GY, ?_⟩;have:=GX.size;have OE:=bk.trans (Mod.bF GX);have:=GY.size;have aaM:=OE.trans (Mod.bF GY);have aQv:=abz.lt;have eg:=eg.later (τ a7 (τ GX GY));refine en Z Z Z λ aTp Er Q hK=>ap UL κ.dE (eg.later Er) ((aN.gM (R:=ct.rep) (by_:=40) (q:=(⟨3,o.by_,⟨0,0⟩,o.what⟩:ct)) abz ⟨Z,(by obtain ⟨Gn,pa,l4,nP,ov,qc⟩:=dS;exact ⟨bN.2 (by (try dsimp only);omega),Gn,bN.2 (by (try dsimp only);omega),bN.2 (by (try dsimp only);omega),qc⟩)⟩ (by decide)).keep Er) Z Z (by simp only [aUn,aUt];omega) (by simp only [aUn,aUt];omega) (by have:=Er.size;omega) Z λ aTq abb adJ I4 CE Lu aPt=>hK _ _ ?_;have:=Er.size;have aHD:=aaM.trans (Mod.bF Er);have:=I4.size;have aHE:=aHD.md I4 (λ q I=> .inl (aUB _ (aUy.2 (.inr (aUy.2 (.inr I))))));have aSd:=λ q I=>(CE.lt q I).2;have:=I4.size;refine ar Z (λ _=>b6 Z)<|ar Z (λ _=>au Fm Z)<| ?_;have hS:=hS.later (τ GX (τ GY Er));have hS:=hS.mod I4 (λ I=>sX _ I rfl);refine en Z Z Z λ aTu J2 Q hK=>st (new:= [.slice A tz.length a, .slice B ye.length b, .slice abb ((zH++ [(⟨3,o.by_,⟨0,0⟩,o.what⟩:ct)]).length) adJ]) Z Z (hS.later J2) Z VK Z Z Z λ aTv Nq hS=>hK _ _ ?_;have:=J2.size;have aHH:=aHE.trans (Mod.bF J2);have:=Nq.size;have aHI:=aHH.md Nq (λ q I=> .inl (by rw [aUg.1 I];exact aUH));refine fn λ aGo q_=> ?_;have:=q_.size;have aaN:=aHI.trans (Mod.bF q_);refine bX<|ne<|bb .nil<| ?_;have hS:=hS.later q_;have hA:=hA.later (τ a7 (τ GX (τ GY Er)));have hA:=hA.mod I4 (λ q I h=>y2 q h I);have hA:=hA.later J2;have hA:=hA.mod Nq (λ q I h=>by have Φ:=aUg.1 h;exfalso;(exact vN q I Φ));have hA:=hA.later q_;have ba:=ba.later (τ a7 (τ GX (τ GY Er)));have ba:=ba.mod I4 (λ q I h=>y3 q h I);have ba:=ba.later J2;have ba:=ba.mod Nq (λ q I h=>by have Φ:=aUg.1 h;exfalso;(exact vO q I Φ));have ba:=ba.later q_;have CE:=CE.later J2;have CE:=CE.mod Nq (λ q I h=>by have Φ:=aUg.1 h;exfalso;(exact aUw (Lu q I) (λ aiO=>by (exact sX q aiO Φ)) (λ aiO=>by omega)));have CE:=CE.later q_;have a8:nR o= []:=by unfold nR;simp [*]
      have bl:nT o= []:=by unfold nT;simp [*]
      have cZ:nS o= [(⟨3,o.by_,⟨0,0⟩,o.what⟩:ct)]:=by unfold nS;simp [*]
      rw [a8,bl,cZ];simp only [aUV];exact ⟨A,a,B,b,abb,adJ,Z,hS,hA,ba,CE,(λ q I Φ=>by (exact vN q I Φ)),(λ q I Φ=>by (exact vO q I Φ)),(λ q I Φ=>by (exact aUw (Lu q I) (λ aiP=>by (exact sX q aiP Φ)) (λ aiP=>by omega))),(λ q I Φ=>by (exact CZ q I Φ)),(λ q I Φ=>by (exact aUw (Lu q I) (λ MW=>by (exact y2 q MW Φ)) (λ MW=>by (have:=N2 q Φ;omega)))),(λ q I Φ=>by (exact aUw (Lu q I) (λ aiQ=>by (exact y3 q aiQ Φ)) (λ aiQ=>by (have:=Jy q Φ;omega)))),(λ q I=> .inl I),(λ q I=> .inl I),(λ q I=>(Lu q I).imp id λ h=>by omega),aaN⟩
     ·refine fv<|bX<|ne<|bb .nil<| ?_;have hS:=hS.later a7;have hA:=hA.later a7;have ba:=ba.later a7;have eg:=eg.later a7;have a8:nR o= []:=by unfold nR;simp [*]
      have bl:nT o= []:=by unfold nT;simp [*]
      have cZ:nS o= []:=by unfold nS;simp [*]
      rw [a8,bl,cZ];simp only [aUV];exact ⟨A,a,B,b,C,c,Z,hS,hA,ba,eg,(λ q I Φ=>by (exact vN q I Φ)),(λ q I Φ=>by (exact vO q I Φ)),(λ q I Φ=>by (exact sX q I Φ)),(λ q I Φ=>by (exact CZ q I Φ)),(λ q I Φ=>by (exact y2 q I Φ)),(λ q I Φ=>by (exact y3 q I Φ)),(λ q I=> .inl I),(λ q I=> .inl I),(λ q I=> .inl I),bk⟩
end
section
theorem NG {l:List aO} (h:iu l=0):l.length≤100∧∀ o∈l,o.bq=0:=by
 unfold iu at h;split at h
 ·cases h
 ·refine ⟨by omega,λ o b5=> ?_⟩;split at h
  ·rename_i x hx
   have:=aXw hx;rw [h] at this;exact nomatch this
  ·rename_i hx
   have:=aVH.1 hx o b5;simpa using this
end
section
def x_ (W:aj) (k:Nat):List (Int×Int):=(W.ao.take k).map λ t=>(t.id,t.owner)
theorem aCe {W:aj} {k:Nat} (h:k<W.ao.length):x_ W (k+1)=x_ W k++ [((W.ao.getD k default).id,(W.ao.getD k default).owner)]:=by
 unfold x_;rw [D8 (d:=default) h,aUK];rfl
theorem aCg {W:aj} (bD:Good W) {k:Nat} (h:k<W.ao.length):cQ (x_ W k) (W.ao.getD k default).id=none:=by
 unfold cQ x_;rw [List.find?_map,aYL,aYL,aVH];intro x hx;obtain ⟨i,aq,e⟩:=aVj.1 hx;rw [aUm] at aq;rw [List.getElem_take] at e;have:=(aVa.1 bD.Jk) i k (by omega) h (by omega);rw [← e,oh h];have γ:=this.1;simp only [Function.comp_apply,aVh];omega
def may (W:aj) (o:aO):Bool:=if o.kind=5 then decide (o.by_<(W.aZ.length:Int)) && (o.by_ == o.by_) else (cQ (x_ W W.ao.length) o.aU).isSome && ((cQ (x_ W W.ao.length) o.aU).getD 0 == o.by_)
def dZ (W:aj) (l:List aO) (k:Nat):List dy:=(l.take k).flatMap λ o=>if may W o=true then nR o else []
theorem ZS {W:aj} {l:List aO} {k:Nat} (h:k<l.length) (hm:may W (l.getD k default)=true):dZ W l (k+1)=dZ W l k++nR (l.getD k default):=by
 unfold dZ;rw [D8 (d:=default) h,aVx,aVS,aWx,aUV,aUz hm]
theorem ZR {W:aj} {l:List aO} {k:Nat} (h:k<l.length) (hm:may W (l.getD k default)=false):dZ W l (k+1)=dZ W l k:=by
 unfold dZ;rw [D8 (d:=default) h,aVx,aVS,aWx,aUV,aUr (by rw [hm];decide),aUV]
theorem alU (W:aj) (l:List aO):∀ k,(dZ W l k).length≤k
 | 0=>by simp [dZ]
 | k+1=>by
  have bI:=alU W l k;by_cases h:k<l.length
  ·cases hm:may W (l.getD k default) with
   | true=>rw [ZS h hm,aUq];have:(nR (l.getD k default)).length≤1:=(by unfold nR;(repeat' split)<;>simp);omega
   | false=>rw [ZR h hm];omega
  ·have:dZ W l (k+1)=dZ W l k:=by unfold dZ;rw [aUI (by omega),aUI (by omega)]
   rw [this];omega
def eB (W:aj) (l:List aO) (k:Nat):List dz:=(l.take k).flatMap λ o=>if may W o=true then nT o else []
theorem ZW {W:aj} {l:List aO} {k:Nat} (h:k<l.length) (hm:may W (l.getD k default)=true):eB W l (k+1)=eB W l k++nT (l.getD k default):=by
 unfold eB;rw [D8 (d:=default) h,aVx,aVS,aWx,aUV,aUz hm]
theorem ZV {W:aj} {l:List aO} {k:Nat} (h:k<l.length) (hm:may W (l.getD k default)=false):eB W l (k+1)=eB W l k:=by
 unfold eB;rw [D8 (d:=default) h,aVx,aVS,aWx,aUV,aUr (by rw [hm];decide),aUV]
theorem alW (W:aj) (l:List aO):∀ k,(eB W l k).length≤k
 | 0=>by simp [eB]
 | k+1=>by
  have bI:=alW W l k;by_cases h:k<l.length
  ·cases hm:may W (l.getD k default) with
   | true=>rw [ZW h hm,aUq];have:(nT (l.getD k default)).length≤1:=(by unfold nT;(repeat' split)<;>simp);omega
   | false=>rw [ZV h hm];omega
  ·have:eB W l (k+1)=eB W l k:=by unfold eB;rw [aUI (by omega),aUI (by omega)]
   rw [this];omega
def e2 (W:aj) (l:List aO) (k:Nat):List ct:=(l.take k).flatMap λ o=>if may W o=true then nS o else []
theorem ZU {W:aj} {l:List aO} {k:Nat} (h:k<l.length) (hm:may W (l.getD k default)=true):e2 W l (k+1)=e2 W l k++nS (l.getD k default):=by
 unfold e2;rw [D8 (d:=default) h,aVx,aVS,aWx,aUV,aUz hm]
theorem ZT {W:aj} {l:List aO} {k:Nat} (h:k<l.length) (hm:may W (l.getD k default)=false):e2 W l (k+1)=e2 W l k:=by
 unfold e2;rw [D8 (d:=default) h,aVx,aVS,aWx,aUV,aUr (by rw [hm];decide),aUV]
theorem alV (W:aj) (l:List aO):∀ k,(e2 W l k).length≤k
 | 0=>by simp [e2]
 | k+1=>by
  have bI:=alV W l k;by_cases h:k<l.length
  ·cases hm:may W (l.getD k default) with
   | true=>rw [ZU h hm,aUq];have:(nS (l.getD k default)).length≤1:=(by unfold nS;(repeat' split)<;>simp);omega
   | false=>rw [ZT h hm];omega
  ·have:e2 W l (k+1)=e2 W l k:=by unfold e2;rw [aUI (by omega),aUI (by omega)]
   rw [this];omega
theorem alX (W:aj) (l:List aO) (k:Nat):(dZ W l k).length≤k∧(eB W l k).length≤k∧(e2 W l k).length≤k:=⟨alU W l k,alW W l k,alV W l k⟩
theorem alY (A:Option Addr) (c:Nat) (l:List aO) (rG:aj.cq) (W:aj) (w:World) (aB:aO.rep.aK 48 w A c l) (bQ:aj.Has w rG W):
  Calls prog 60 #[.slice A l.length c, .agg ((aj.cells rG W).toArray)] w (λ e w'=>∃ hq b3 cp c1 cX c2,((iu l≠0∧e= .returned (.tuple #[.slice none 0 0, .slice none 0 0, .slice none 0 0, .int .i64 (iu l)]))∨(iu l=0∧W.bq≠0∧e= .returned (.tuple #[.slice none 0 0, .slice none 0 0, .slice none 0 0, .int .i64 W.bq]))∨(iu l=0∧W.bq=0∧e= .returned (.tuple #[.slice hq (dZ W l l.length).length b3, .slice cp (eB W l l.length).length c1, .slice cX (e2 W l l.length).length c2, .int .i64 0])∧dy.rep.aD 223 16 w' w.heap.size (κ.ae hq) hq b3 (dZ W l l.length)∧dz.rep.aD 225 24 w' w.heap.size (κ.ae cp) cp c1 (eB W l l.length)∧ct.rep.aD 178 40 w' w.heap.size (κ.ae cX) cX c2 (e2 W l l.length)))∧Ext w w'):=by
 have qR:=aB.dT;refine cl (n:=82) func60 Z Z Z ?_;refine ai<|cI Z Z Z Z λ cW bw a7 eA ab=> ?_;have:=a7.size;have bk:=τ (Ext.bK w) a7;have eG:=ab.lt;refine va Z<|va Z<|va Z<|va Z<|ag<|az<|ai<|vm Z<|ca VL Z Z ((Y3 _ _ l _ (aB.keep bk)).mono ?_);rintro e eM ⟨rfl,cL⟩;refine ⟨_,Z, ?_⟩;have:=cL.size;have bR:=τ bk cL;refine va Z<|ag<|ai<|vm Z<|J (bne Z Z)<|ag<| ?_;refine eU Z (λ kN=> ?_) (λ kN=> ?_)
 ·refine ai<|vm Z<|va Z<|va Z<|va Z<|va Z<|ag<|rt<|bT<|bb (.tmp Z (.tmp Z (.tmp Z (.tmp Z .nil))))<| ?_;exact ⟨none,0,none,0,none,0, .inl ⟨kN,Z⟩,bR⟩
 ·obtain ⟨axJ,_⟩:=NG (by simpa using kN);refine bt<|az<|ai<| ?_;have ab:=ab.later cL;refine J (ak Z (ab.all dD cf))<|ca HV Z Z ((CW rG W _ (bQ.keep bR)).mono ?_);rintro e Eg ⟨rfl,dC⟩;refine ⟨_,Z, ?_⟩;have:=dC.size;have oI:=τ bR dC;refine va Z<|ag<|ai<|vm Z<|J (bne Z Z)<|ag<| ?_;refine eU Z (λ iA=> ?_) (λ iA=> ?_)
  ·refine ai<|vm Z<|va Z<|va Z<|va Z<|va Z<|ag<|rt<|bT<|bb (.tmp Z (.tmp Z (.tmp Z (.tmp Z .nil))))<| ?_;exact ⟨none,0,none,0,none,0, .inr (.inl ⟨by simpa using kN,iA,rfl⟩),oI⟩
  ·have bD:=Good.BD (by simpa using iA);have FU:=bD.eF;have Rv:=bD.ks;refine bt<|ai<|YX Z λ ym ss l9 aAf acj=> ?_;have:=l9.size;have kC:=τ oI l9;have ak7:=acj.lt;refine va Z<|ag<|az<|ai<|J (au iO Z)<| ?_;have ab:=ab.later (τ dC l9);refine J (ak Z (ab.one j7 Z))<|J (cj underlying26 Z)<|vm Z<|ag<|bA<| ?_;refine dX (λ b4 b2 aG=>∃ k:Nat,b2= [(0, .slice A l.length c),(3, .pointer (some ⟨bw,0,none⟩)),(4, .slice none 0 0),(5, .slice none 0 0),(6, .slice none 0 0),(7, .int .i64 0),(10, .map (some ss)),(30, .slice rG.T W.ao.length rG.t),(31, .int .i64 (W.ao.length:Int)),(32, .int .i64 (k:Int))]∧b4=W.ao.length - k∧Ext w aG∧aN aG bw (aj.cells rG W) 28 (0,0)∧pB aG ss (x_ W k)∧(k≤W.ao.length)) _ _ ⟨0,Z,Z,kC,ab,acj,by omega⟩ (.cons Z (.cons Z (.cons Z (.cons Z (.cons Z (.cons Z (.cons Z (.cons Z (.cons Z (.cons (bO Z) .nil)))))))))) ?_;rintro lI aIP BR ⟨k,rfl,rfl,lR,ab,gZ,aw⟩;have:=lR.size;have aDa:=ab.lt;have NK:=gZ.lt;refine ai<|J (blt Z Z)<|ag<|az<| ?_;refine dw Z (λ awt=> ?_) (λ awt=> ?_)
   ·refine bt<|az<|bA<|ai<|J (bY k underlying26 jd Z Z ((bQ.T.keep lR).bu (aX k)) Z (by omega))<|J (ak Z (κ.aK.hb jH ((bQ.T.keep lR).cr (aX k)) (dH (l:=W.ao) (u:=default) (by omega)) y8 jd))<|al Z Ln Z Z λ BT adk dp ajH w8=> ?_;have:=dp.size;have ph:=τ lR dp;have aDd:=w8.lt;refine st (new:= [.int .i64 ((W.ao.getD k default).id), .int .i64 ((W.ao.getD k default).owner), .int .i64 ((W.ao.getD k default).kind), .int .i64 ((W.ao.getD k default).spot.x), .int .i64 ((W.ao.getD k default).spot.y), .int .i64 ((W.ao.getD k default).dc), .int .i64 ((W.ao.getD k default).load)]) Z Z w8 Z jd Z Z Z λ BU uV w8=> ?_;have:=uV.size;have k4:=Ext.mod ph uV bx;refine ag<|rg<|vm Z<|J (au HW Z)<|J (ak Z (w8.one bf Z))<|J (au Fs Z)<|J (ak Z (w8.one bf Z))<| ?_;have gZ:=gZ.later dp;have gZ:=gZ.mod uV aQ;refine mu underlying167 underlying3 gZ (aCg bD (by omega)) Z Z Z λ Tj p_ gZ=> ?_;have:=p_.size;have Ca:=Ext.mod k4 p_ bx;refine nl<|bX<|aT<|rg<|J (bad Z Z (bH (by omega)))<|vm Z<|nl<| ?_;have a8:x_ W (k+1)=x_ W k++ [((W.ao.getD k default).id,(W.ao.getD k default).owner)]:=aCe (by omega);have ab:=ab.later dp;have ab:=ab.mod uV aQ;have ab:=ab.mod p_ aQ;exact cO _ _ ⟨k+1,Z,Z,Ca,ab,(by rw [a8];exact gZ),by omega⟩ (by omega) (.cons Z (.cons Z (.cons Z (.cons Z (.cons Z (.cons Z (.cons Z (.cons Z (.cons Z (.cons (bO Z) .nil))))))))))
   ·refine c_<|c9<|dn<|c8<|aT<|ai<|al Z atm Z Z λ JM uj ql aOa abJ=> ?_;have:=ql.size;have vq:=τ lR ql;have aDh:=abJ.lt;refine ag<|az<|ai<|vm Z<|J (cj underlying44 Z)<|vm Z<|ag<|bA<| ?_;have mS:k=W.ao.length:=by omega
    subst mS;have ab:=ab.later ql;have gZ:=gZ.later ql;refine dX (λ b4 b2 aG=>∃ j:Nat,∃ hq:Option Addr,∃ b3:Nat,∃ cp:Option Addr,∃ c1:Nat,∃ cX:Option Addr,∃ c2:Nat,b2= [(3, .pointer (some ⟨bw,0,none⟩)),(4, .slice none 0 0),(5, .slice none 0 0),(6, .slice none 0 0),(7, .int .i64 0),(10, .map (some ss)),(13, .pointer (some ⟨uj,0,none⟩)),(42, .slice A l.length c),(43, .int .i64 (l.length:Int)),(44, .int .i64 (j:Int))]∧b4=l.length - j∧Ext w aG∧aN aG bw (aj.cells rG W) 28 (0,0)∧pB aG ss (x_ W W.ao.length)∧aN aG uj [.slice hq ((dZ W l j).length) b3, .slice cp ((eB W l j).length) c1, .slice cX ((e2 W l j).length) c2] 169 (0,0)∧dy.rep.aD 223 16 aG w.heap.size (κ.ae hq) hq b3 (dZ W l j)∧dz.rep.aD 225 24 aG w.heap.size (κ.ae cp) cp c1 (eB W l j)∧ct.rep.aD 178 40 aG w.heap.size (κ.ae cX) cX c2 (e2 W l j)∧(j≤l.length)∧(∀ q∈κ.ae hq,q=bw→False)∧(∀ q∈κ.ae hq,q=ss→False)∧(∀ q∈κ.ae hq,q=uj→False)∧(∀ q∈κ.ae cp,q=bw→False)∧(∀ q∈κ.ae cp,q=ss→False)∧(∀ q∈κ.ae cp,q=uj→False)∧(∀ q∈κ.ae cp,q∈κ.ae hq→False)∧(∀ q∈κ.ae cX,q=bw→False)∧(∀ q∈κ.ae cX,q=ss→False)∧(∀ q∈κ.ae cX,q=uj→False)∧(∀ q∈κ.ae cX,q∈κ.ae hq→False)∧(∀ q∈κ.ae cX,q∈κ.ae cp→False)) _ _ ⟨0,none,0,none,0,none,0,Z,Z,vq,ab,gZ,abJ,(κ.aD.nil _),(κ.aD.nil _),(κ.aD.nil _),by omega,(λ q I Φ=>by (simp [κ.ae] at I)),(λ q I Φ=>by (simp [κ.ae] at I)),(λ q I Φ=>by (simp [κ.ae] at I)),(λ q I Φ=>by (simp [κ.ae] at I)),(λ q I Φ=>by (simp [κ.ae] at I)),(λ q I Φ=>by (simp [κ.ae] at I)),(λ q I Φ=>by (simp [κ.ae] at I)),(λ q I Φ=>by (simp [κ.ae] at I)),(λ q I Φ=>by (simp [κ.ae] at I)),(λ q I Φ=>by (simp [κ.ae] at I)),(λ q I Φ=>by (simp [κ.ae] at I)),(λ q I Φ=>by (simp [κ.ae] at I))⟩ (.cons Z (.cons Z (.cons Z (.cons Z (.cons Z (.cons Z (.cons Z (.cons Z (.cons Z (.cons (bO Z) .nil)))))))))) ?_;rintro nM aI7 Tp ⟨j,hq,b3,cp,c1,cX,c2,rfl,rfl,sF,ab,gZ,bm,jC,jD,jE,aA,HN,HO,AU,xA,nA,rL,ux,oc,od,C2,AV,Qf⟩;have:=sF.size;have Zn:=ab.lt;have Sv:=gZ.lt;have alc:=bm.lt;have S_:=λ q I=>(jC.lt q I).2;have tD:=λ q I=>(jD.lt q I).2;have Oa:=λ q I=>(jE.lt q I).2;have s7:=alX W l j;refine ai<|J (blt Z Z)<|ag<|az<| ?_;refine dw Z (λ W'=> ?_) (λ W'=> ?_)
    ·have Bh:=aO.oT aB _ (jT (d:=default) (show j<l.length by omega));refine bt<|az<|bA<|ai<|J (bY j underlying44 eI Z Z ((aB.keep sF).bu (aX j)) Z (by omega))<|J (ak Z (κ.aK.hb Dg ((aB.keep sF).cr (aX j)) (dH (l:=l) (u:=default) (by omega)) iM eI))<|al Z Qp Z Z λ JS ap9 iE aAm n2=> ?_;have:=iE.size;have Cg:=τ sF iE;have aDn:=n2.lt;refine st (new:= [.int .i64 ((l.getD j default).by_), .int .i64 ((l.getD j default).kind), .int .i64 ((l.getD j default).aU), .int .i64 ((l.getD j default).spot.x), .int .i64 ((l.getD j default).spot.y), .int .i64 ((l.getD j default).what)]) Z Z n2 Z eI Z Z Z λ aGx iB n2=> ?_;have:=iB.size;have J8:=Ext.mod Cg iB bx;refine ag<|ai<|vm Z<|J (au C3 Z)<|J (ak Z (n2.one bf Z))<| ?_;have gZ:=gZ.later iE;have gZ:=gZ.mod iB aQ;refine J (lk underlying167 underlying3 QA gZ Z Z)<|vm Z<|J (ex Z Z)<|J (ex Z Z)<|va Z<|va Z<|ag<|az<|ai<|J (au pN Z)<|J (ak Z (n2.one bf Z))<|J (beq Z Z)<|ag<| ?_;refine kj Z (λ wa=> ?_) (λ wa=> ?_)
     ·refine rd [(1,0),(3,0),(5,0)] [0,1,2,3,4,5,6,7,8,9] (by kernel_rfl) (by kernel_rfl) ?_;refine ar Z (λ _=>au pO Z)<|bG Z (λ _ x=>ak Z ((n2.later x).one bf Z))<|ar Z (λ _=>au pO Z)<|bG Z (λ _ x=>ak Z ((n2.later x).one bf Z))<|ar Z (λ _=>au pS Z)<| ?_;have ab:=ab.later iE;have ab:=ab.mod iB aQ;refine bG Z (λ _ x=>ak Z ((ab.later x).one sY Z))<|ar Z (λ _=>cj underlying25 Z)<|ar Z (λ _=>blt Z Z)<|ar Z (λ _=>fA Z)<|ar Z (λ _=>fA Z)<|fn λ JU ed=> ?_;have:=ed.size;have k5:=τ J8 ed;refine aT<|ai<|vm Z<|vm Z<|br Z Z Z Z (λ hc=>aM Z) Z<|br Z Z Z Z (λ hc=>au pO Z) Z<| ?_;have n2:=n2.later ed;refine br Z Z Z Z (λ hc=>ak (gt hc Z) (n2.one bf Z)) Z<|br Z Z Z Z (λ hc=>beq (gt hc Z) (gt hc Z)) Z<|J (e9 Z Z Z Z)<|ag<| ?_;refine ee Z (λ FD=> ?_) (λ FD=> ?_)
      ·have r9:may W (l.getD j default)=true:=by unfold may;rw [aUz wa];rw [← FD]
       refine rg<|J (ak Z (n2.all iM eI))<| ?_;have bm:=bm.later iE;have bm:=bm.mod iB aQ;have bm:=bm.later ed;have jC:=jC.later iE;have jC:=jC.mod iB (b' S_);have jC:=jC.later ed;have jD:=jD.later iE;have jD:=jD.mod iB (b' tD);have jD:=jD.later ed;have jE:=jE.later iE;have jE:=jE.mod iB (b' Oa);have jE:=jE.later ed;have avR:∀ q∈(uj::(κ.ae hq++(κ.ae cp++κ.ae cX))),w.heap.size≤q:=by
        intro q I;simp only [aUD,aUy] at I;rcases I with I | I | I | I
        ·omega
        ·exact (jC.lt q I).1
        ·exact (jD.lt q I).1
        ·exact (jE.lt q I).1
       refine ca afj Z Z ((ac8 (l.getD j default) w uj _ _ _ _ _ _ _ _ _ _ k5 Bh bm jC jD jE (λ q I Φ=>by (exact AU q I Φ)) (λ q I Φ=>by (exact rL q I Φ)) (λ q I Φ=>by (exact C2 q I Φ)) (λ q I Φ=>by (exact ux q I Φ)) (λ q I Φ=>by (exact AV q I Φ)) (λ q I Φ=>by (exact Qf q I Φ)) (by omega) (by omega) (by omega)).mono ?_);rintro e aat ⟨anX,aq1,anY,aq2,anZ,aq3,rfl,O5,acU,acV,acW,asV,asW,asX,asL,asM,asN,aga,agb,agc,uX⟩;refine ⟨_,Z, ?_⟩;have:=uX.size;have G9:=Ext.mod k5 uX avR;have aSN:=λ q I=>(acU.lt q I).2;have aFy:=λ q I=>(acV.lt q I).2;have aSO:=λ q I=>(acW.lt q I).2;refine nl<|bX<|aT<|rg<|J (bad Z Z (bH (by omega)))<|vm Z<|nl<| ?_;have bl:dZ W l (j+1)=dZ W l j++nR (l.getD j default):=ZS (by omega) r9;have cZ:eB W l (j+1)=eB W l j++nT (l.getD j default):=ZW (by omega) r9;have jP:e2 W l (j+1)=e2 W l j++nS (l.getD j default):=ZU (by omega) r9;have ab:=ab.later ed;have aBH:bw∉(uj::(κ.ae hq++(κ.ae cp++κ.ae cX))):=by
        intro I;simp only [aUD,aUy] at I;rcases I with I | I | I | I
        ·omega
        ·exact (λ q (γ:q∈κ.ae hq) (aa:q=bw)=>show False by (exact HN q γ aa)) _ I Z
        ·exact (λ q (γ:q∈κ.ae cp) (aa:q=bw)=>show False by (exact xA q γ aa)) _ I Z
        ·exact (λ q (γ:q∈κ.ae cX) (aa:q=bw)=>show False by (exact oc q γ aa)) _ I Z
       have ab:=ab.mod uX aBH;have gZ:=gZ.later ed;have aBI:ss∉(uj::(κ.ae hq++(κ.ae cp++κ.ae cX))):=by
        intro I;simp only [aUD,aUy] at I;rcases I with I | I | I | I
        ·omega
        ·exact (λ q (γ:q∈κ.ae hq) (aa:q=ss)=>show False by (exact HO q γ aa)) _ I Z
        ·exact (λ q (γ:q∈κ.ae cp) (aa:q=ss)=>show False by (exact nA q γ aa)) _ I Z
        ·exact (λ q (γ:q∈κ.ae cX) (aa:q=ss)=>show False by (exact od q γ aa)) _ I Z
       have gZ:=gZ.mod uX aBI;exact cO _ _ ⟨j+1,anX,aq1,anY,aq2,anZ,aq3,Z,Z,G9,ab,gZ,(by rw [bl,cZ,jP];exact O5),(by rw [bl];exact acU),(by rw [cZ];exact acV),(by rw [jP];exact acW),by omega,(λ q I Φ=>by (exact aUw (aga q I) (λ ME=>by (exact HN q ME Φ)) (λ ME=>by omega))),(λ q I Φ=>by (exact aUw (aga q I) (λ MF=>by (exact HO q MF Φ)) (λ MF=>by omega))),(λ q I Φ=>by (exact asV q I Φ)),(λ q I Φ=>by (exact aUw (agb q I) (λ DF=>by (exact xA q DF Φ)) (λ DF=>by omega))),(λ q I Φ=>by (exact aUw (agb q I) (λ MG=>by (exact nA q MG Φ)) (λ MG=>by omega))),(λ q I Φ=>by (exact asW q I Φ)),(λ q I Φ=>by (exact asL q I Φ)),(λ q I Φ=>by (exact aUw (agc q I) (λ MH=>by (exact oc q MH Φ)) (λ MH=>by omega))),(λ q I Φ=>by (exact aUw (agc q I) (λ MI=>by (exact od q MI Φ)) (λ MI=>by omega))),(λ q I Φ=>by (exact asX q I Φ)),(λ q I Φ=>by (exact asM q I Φ)),(λ q I Φ=>by (exact asN q I Φ))⟩ (by omega) (.cons Z (.cons Z (.cons Z (.cons Z (.cons Z (.cons Z (.cons Z (.cons Z (.cons Z (.cons (bO Z) .nil))))))))))
      ·have r9:may W (l.getD j default)=false:=by unfold may;rw [aUz wa];rw [← FD]
       refine fv<|bX<|aT<|rg<|J (bad Z Z (bH (by omega)))<|vm Z<|nl<| ?_;have bl:dZ W l (j+1)=dZ W l j:=ZR (by omega) r9;have cZ:eB W l (j+1)=eB W l j:=ZV (by omega) r9;have jP:e2 W l (j+1)=e2 W l j:=ZT (by omega) r9;have ab:=ab.later ed;have gZ:=gZ.later ed;have bm:=bm.later iE;have bm:=bm.mod iB aQ;have bm:=bm.later ed;have jC:=jC.later iE;have jC:=jC.mod iB (b' S_);have jC:=jC.later ed;have jD:=jD.later iE;have jD:=jD.mod iB (b' tD);have jD:=jD.later ed;have jE:=jE.later iE;have jE:=jE.mod iB (b' Oa);have jE:=jE.later ed;exact cO _ _ ⟨j+1,hq,b3,cp,c1,cX,c2,Z,Z,k5,ab,gZ,(by rw [bl,cZ,jP];exact bm),(by rw [bl];exact jC),(by rw [cZ];exact jD),(by rw [jP];exact jE),by omega,(λ q I Φ=>by (exact HN q I Φ)),(λ q I Φ=>by (exact HO q I Φ)),(λ q I Φ=>by (exact AU q I Φ)),(λ q I Φ=>by (exact xA q I Φ)),(λ q I Φ=>by (exact nA q I Φ)),(λ q I Φ=>by (exact rL q I Φ)),(λ q I Φ=>by (exact ux q I Φ)),(λ q I Φ=>by (exact oc q I Φ)),(λ q I Φ=>by (exact od q I Φ)),(λ q I Φ=>by (exact C2 q I Φ)),(λ q I Φ=>by (exact AV q I Φ)),(λ q I Φ=>by (exact Qf q I Φ))⟩ (by omega) (.cons Z (.cons Z (.cons Z (.cons Z (.cons Z (.cons Z (.cons Z (.cons Z (.cons Z (.cons (bO Z) .nil))))))))))
     ·refine bt<|ai<|vm Z<|vm Z<|br Z Z Z Z (λ hc=>aM Z) Z<|br Z Z Z Z (λ hc=>au pO Z) Z<|br Z Z Z Z (λ hc=>ak (gt hc Z) (n2.one bf Z)) Z<|br Z Z Z Z (λ hc=>beq (gt hc Z) (gt hc Z)) Z<|J (e9 Z Z Z Z)<|ag<| ?_;refine ee Z (λ FB=> ?_) (λ FB=> ?_)
      ·have r9:may W (l.getD j default)=true:=by unfold may;rw [aUr wa];rw [← FB]
       refine rg<|J (ak Z (n2.all iM eI))<| ?_;have bm:=bm.later iE;have bm:=bm.mod iB aQ;have jC:=jC.later iE;have jC:=jC.mod iB (b' S_);have jD:=jD.later iE;have jD:=jD.mod iB (b' tD);have jE:=jE.later iE;have jE:=jE.mod iB (b' Oa);have avQ:∀ q∈(uj::(κ.ae hq++(κ.ae cp++κ.ae cX))),w.heap.size≤q:=by
        intro q I;simp only [aUD,aUy] at I;rcases I with I | I | I | I
        ·omega
        ·exact (jC.lt q I).1
        ·exact (jD.lt q I).1
        ·exact (jE.lt q I).1
       refine ca afj Z Z ((ac8 (l.getD j default) w uj _ _ _ _ _ _ _ _ _ _ J8 Bh bm jC jD jE (λ q I Φ=>by (exact AU q I Φ)) (λ q I Φ=>by (exact rL q I Φ)) (λ q I Φ=>by (exact C2 q I Φ)) (λ q I Φ=>by (exact ux q I Φ)) (λ q I Φ=>by (exact AV q I Φ)) (λ q I Φ=>by (exact Qf q I Φ)) (by omega) (by omega) (by omega)).mono ?_);rintro e GI ⟨anD,aqI,anE,aqJ,anF,aqK,rfl,an2,acA,acB,acC,asS,asT,asU,asI,asJ,asK,af3,af4,af5,uR⟩;refine ⟨_,Z, ?_⟩;have:=uR.size;have Oy:=Ext.mod J8 uR avQ;have aFf:=λ q I=>(acA.lt q I).2;have aRZ:=λ q I=>(acB.lt q I).2;have aR0:=λ q I=>(acC.lt q I).2;refine nl<|bX<|aT<|rg<|J (bad Z Z (bH (by omega)))<|vm Z<|nl<| ?_;have bl:dZ W l (j+1)=dZ W l j++nR (l.getD j default):=ZS (by omega) r9;have cZ:eB W l (j+1)=eB W l j++nT (l.getD j default):=ZW (by omega) r9;have jP:e2 W l (j+1)=e2 W l j++nS (l.getD j default):=ZU (by omega) r9;have ab:=ab.later iE;have ab:=ab.mod iB aQ;have aBF:bw∉(uj::(κ.ae hq++(κ.ae cp++κ.ae cX))):=by
        intro I;simp only [aUD,aUy] at I;rcases I with I | I | I | I
        ·omega
        ·exact (λ q (γ:q∈κ.ae hq) (aa:q=bw)=>show False by (exact HN q γ aa)) _ I Z
        ·exact (λ q (γ:q∈κ.ae cp) (aa:q=bw)=>show False by (exact xA q γ aa)) _ I Z
        ·exact (λ q (γ:q∈κ.ae cX) (aa:q=bw)=>show False by (exact oc q γ aa)) _ I Z
       have ab:=ab.mod uR aBF;have aBG:ss∉(uj::(κ.ae hq++(κ.ae cp++κ.ae cX))):=by
        intro I;simp only [aUD,aUy] at I;rcases I with I | I | I | I
        ·omega
        ·exact (λ q (γ:q∈κ.ae hq) (aa:q=ss)=>show False by (exact HO q γ aa)) _ I Z
        ·exact (λ q (γ:q∈κ.ae cp) (aa:q=ss)=>show False by (exact nA q γ aa)) _ I Z
        ·exact (λ q (γ:q∈κ.ae cX) (aa:q=ss)=>show False by (exact od q γ aa)) _ I Z
       have gZ:=gZ.mod uR aBG;exact cO _ _ ⟨j+1,anD,aqI,anE,aqJ,anF,aqK,Z,Z,Oy,ab,gZ,(by rw [bl,cZ,jP];exact an2),(by rw [bl];exact acA),(by rw [cZ];exact acB),(by rw [jP];exact acC),by omega,(λ q I Φ=>by (exact aUw (af3 q I) (λ air=>by (exact HN q air Φ)) (λ air=>by omega))),(λ q I Φ=>by (exact aUw (af3 q I) (λ ais=>by (exact HO q ais Φ)) (λ ais=>by omega))),(λ q I Φ=>by (exact asS q I Φ)),(λ q I Φ=>by (exact aUw (af4 q I) (λ DG=>by (exact xA q DG Φ)) (λ DG=>by omega))),(λ q I Φ=>by (exact aUw (af4 q I) (λ MJ=>by (exact nA q MJ Φ)) (λ MJ=>by omega))),(λ q I Φ=>by (exact asT q I Φ)),(λ q I Φ=>by (exact asI q I Φ)),(λ q I Φ=>by (exact aUw (af5 q I) (λ MK=>by (exact oc q MK Φ)) (λ MK=>by omega))),(λ q I Φ=>by (exact aUw (af5 q I) (λ ML=>by (exact od q ML Φ)) (λ ML=>by omega))),(λ q I Φ=>by (exact asU q I Φ)),(λ q I Φ=>by (exact asJ q I Φ)),(λ q I Φ=>by (exact asK q I Φ))⟩ (by omega) (.cons Z (.cons Z (.cons Z (.cons Z (.cons Z (.cons Z (.cons Z (.cons Z (.cons Z (.cons (bO Z) .nil))))))))))
      ·have r9:may W (l.getD j default)=false:=by unfold may;rw [aUr wa];rw [← FB]
       refine fv<|bX<|aT<|rg<|J (bad Z Z (bH (by omega)))<|vm Z<|nl<| ?_;have bl:dZ W l (j+1)=dZ W l j:=ZR (by omega) r9;have cZ:eB W l (j+1)=eB W l j:=ZV (by omega) r9;have jP:e2 W l (j+1)=e2 W l j:=ZT (by omega) r9;have ab:=ab.later iE;have ab:=ab.mod iB aQ;have bm:=bm.later iE;have bm:=bm.mod iB aQ;have jC:=jC.later iE;have jC:=jC.mod iB (b' S_);have jD:=jD.later iE;have jD:=jD.mod iB (b' tD);have jE:=jE.later iE;have jE:=jE.mod iB (b' Oa);exact cO _ _ ⟨j+1,hq,b3,cp,c1,cX,c2,Z,Z,J8,ab,gZ,(by rw [bl,cZ,jP];exact bm),(by rw [bl];exact jC),(by rw [cZ];exact jD),(by rw [jP];exact jE),by omega,(λ q I Φ=>by (exact HN q I Φ)),(λ q I Φ=>by (exact HO q I Φ)),(λ q I Φ=>by (exact AU q I Φ)),(λ q I Φ=>by (exact xA q I Φ)),(λ q I Φ=>by (exact nA q I Φ)),(λ q I Φ=>by (exact rL q I Φ)),(λ q I Φ=>by (exact ux q I Φ)),(λ q I Φ=>by (exact oc q I Φ)),(λ q I Φ=>by (exact od q I Φ)),(λ q I Φ=>by (exact C2 q I Φ)),(λ q I Φ=>by (exact AV q I Φ)),(λ q I Φ=>by (exact Qf q I Φ))⟩ (by omega) (.cons Z (.cons Z (.cons Z (.cons Z (.cons Z (.cons Z (.cons Z (.cons Z (.cons Z (.cons (bO Z) .nil))))))))))
    ·refine c_<|c9<|dn<|c8<|aT<|az<| ?_;refine rd [(1,0),(3,0),(5,0)] [0,1,2,3,4,5,6,7,8,9] (by kernel_rfl) (by kernel_rfl) ?_;refine ar Z (λ _=>au VI Z)<|bG Z (λ _ x=>ak Z ((bm.later x).one afg Z))<|ar Z (λ _=>au VJ Z)<|bG Z (λ _ x=>ak Z ((bm.later x).one afh Z))<|ar Z (λ _=>au Fm Z)<|bG Z (λ _ x=>ak Z ((bm.later x).one Qr Z))<|ar Z (λ _=>fA Z)<|ar Z (λ _=>fA Z)<|ar Z (λ _=>fA Z)<|ar Z (λ _=>fA Z)<|fn λ aS8 Ot=> ?_;have:=Ot.size;have aHn:=τ sF Ot;refine aT<|rt<|bb (.tmp Z (.tmp Z (.tmp Z (.tmp Z .nil))))<| ?_;have jC:=jC.later Ot;have jD:=jD.later Ot;have jE:=jE.later Ot;have auR:j=l.length:=by omega
     subst auR;exact ⟨hq,b3,cp,c1,cX,c2, .inr (.inr ⟨by simpa using kN,by simpa using iA,rfl,jC,jD,jE⟩),aHn⟩
end
section
def oC (W:aj) (l:List aO):Int:=if iu l≠0 then iu l else W.bq
theorem SP {W:aj} {l:List aO} (h:oC W l=0):iu l=0∧W.bq=0:=by
 unfold oC at h;split at h
 ·rename_i γ;exact absurd h γ
 ·rename_i γ;exact ⟨by simpa using γ,h⟩
theorem aEn {W:aj} {l:List aO} (h:oC W l=0):l.length≤100:=(NG (SP h).1).1
theorem aEo (A:Option Addr) (c:Nat) (l:List aO) (rG:aj.cq) (W:aj) (w:World) (aB:aO.rep.aK 48 w A c l) (bQ:aj.Has w rG W) (h:oC W l≠0):Calls prog 60 #[.slice A l.length c, .agg (aj.cells rG W).toArray] w (λ e w'=>e= .returned (.tuple #[.slice none 0 0, .slice none 0 0, .slice none 0 0, .int .i64 (oC W l)])∧Ext w w'):=by
 refine (alY A c l rG W w aB bQ).mono λ e w' he=> ?_;obtain ⟨hq,b3,cp,c1,cX,c2,(⟨γ,aa⟩ | ⟨γ,aa,av⟩ | ⟨γ,aa,_⟩),hx⟩:=he
 ·exact ⟨by rw [aa];unfold oC;rw [aUz γ],hx⟩
 ·exact ⟨by rw [av];unfold oC;rw [aUr (by simpa using γ)],hx⟩
 ·exact absurd (by unfold oC;rw [aUr (by simpa using γ)];exact aa) h
theorem alZ (A:Option Addr) (c:Nat) (l:List aO) (rG:aj.cq) (W:aj) (w:World) (aB:aO.rep.aK 48 w A c l) (bQ:aj.Has w rG W) (h:oC W l=0):Calls prog 60 #[.slice A l.length c, .agg (aj.cells rG W).toArray] w (λ e w'=>∃ hq b3 cp c1 cX c2,e= .returned (.tuple #[.slice hq (dZ W l l.length).length b3, .slice cp (eB W l l.length).length c1, .slice cX (e2 W l l.length).length c2, .int .i64 0])∧dy.rep.aD 223 16 w' w.heap.size (κ.ae hq) hq b3 (dZ W l l.length)∧dz.rep.aD 225 24 w' w.heap.size (κ.ae cp) cp c1 (eB W l l.length)∧ct.rep.aD 178 40 w' w.heap.size (κ.ae cX) cX c2 (e2 W l l.length)∧Ext w w'):=by
 obtain ⟨cy,a2⟩:=SP h;refine (alY A c l rG W w aB bQ).mono λ e w' he=> ?_;obtain ⟨hq,b3,cp,c1,cX,c2,(⟨γ,aa⟩ | ⟨γ,aa,av⟩ | ⟨γ,aa,av,aV,bJ,cg⟩),hx⟩:=he
 ·exact absurd cy γ
 ·exact absurd a2 aa
 ·exact ⟨hq,b3,cp,c1,cX,c2,av,aV,bJ,cg,hx⟩
end
section
section
variable {F:List Nat} {P:Program} {ops:Array Oper} {Q:Exit→Act→World→Prop} {a6:Nat→Nat}
def vC (F:List Nat) (P:Program) (ops:Array Oper) (w0:World) (o:Oper) (v:Value) (a:Act):Prop :=
  (Region.wanted o (yielded ops a.tmps)=true∧∀ w,Mod F w0 w→zG P w v ((execOp a.eval o).run P w))∨
  (Region.wanted o (yielded ops a.tmps)=false∧v=undef)
theorem vC.of_same {w0:World} {o:Oper} {v:Value} {a a':Act} (h:vC F P ops w0 o v a) (he:execOp a'.eval o=execOp a.eval o) (hw:Region.wanted o (yielded ops a'.tmps)=Region.wanted o (yielded ops a.tmps)):vC F P ops w0 o v a':=by
  unfold vC at *;rw [he,hw];exact h
theorem vC.on {w0 aP:World} {o:Oper} {v:Value} {a:Act} (h:vC F P ops w0 o v a) (hx:Mod F w0 aP):vC F P ops aP o v a :=
  h.imp (λ ⟨γ,aa⟩=>⟨γ,λ w hw=>aa w (hx.trans hw)⟩) id
theorem Yields.aDr {w0:World} {o:Oper} {v:Value} {a:Act} (h:Yields P ops o v a):vC F P ops w0 o v a :=
  h.imp (λ ⟨γ,aa⟩=>⟨γ,λ w _=>by rw [aa w];exact ⟨rfl,rfl⟩⟩) id
def aEF (F:List Nat) (P:Program) (ops:Array Oper) (Q:Exit→Act→World→Prop) (a6:Nat→Nat) (i:Nat) (K:Act→World→Prop) (a:Act) (w0:World):Prop :=
  ∃ o,ops[i]? =some o∧
    ((a6 i≤1∧∃ v,vC F P ops w0 o v a∧K (a.put o.dst v) w0)∨
     (1<a6 i∧∀ w,Ext w0 w→wpOp P ops Q i (λ a' w'=>(a6 i=2→Mod F w0 w')∧K a' w') a w))
def KW (F:List Nat) (P:Program) (ops:Array Oper) (Q:Exit→Act→World→Prop) (a6:Nat→Nat):Nat→Array Bool→Act→World→Prop
  | 0,l,a,w0=>Region.ready .any ops l= []∧∀ w,Ext w0 w→Q .normal a w
  | f+1,l,a,w0=>(Region.ready .any ops l= []→∀ w,Ext w0 w→Q .normal a w)∧∀ i∈Region.ready .any ops l,aEF F P ops Q a6 i (KW F P ops Q a6 f (l.setIfInBounds i true)) a w0
theorem Hz:∀ (f:Nat) (l:Array Bool) (a:Act) (w0:World),KW F P ops Q a6 f l a w0→∀ w,Ext w0 w→wpAny P .any ops Q f l a w
  | 0,_,_,_,h,w,hw=>⟨h.1,h.2 w hw⟩
  | f+1,l,a,w0,h,w,hw=>⟨λ aI=>h.1 aI w hw,λ i aq=>by
      obtain ⟨o,b5,aa⟩:=h.2 i aq;rcases aa with ⟨_,v,I,aw⟩ | ⟨_,aa⟩
      · unfold wpOp
        simp only [b5];rcases I with ⟨kQ,I⟩ | ⟨kQ,rfl⟩
        · rw [aUz kQ]
          refine .inl ?_;have I:=I w (Mod.bF hw);unfold Oper.wp;generalize (execOp a.eval o).run P w=r at *
          cases r with
          | ok n w' =>
            cases n<;>simp only [zG] at I<;>simp only [Oper.upon]
            case value u=>obtain ⟨rfl,rfl⟩:=I;exact Hz f _ _ _ aw _ hw
            case skip=>obtain ⟨rfl,rfl⟩:=I;exact Hz f _ _ _ aw _ hw
            case enter f' args=>obtain ⟨rfl,hc⟩:=I;exact hc.mono λ e lN ⟨he,hx⟩=>by subst he;exact Hz f _ _ _ aw _ (hw.qg hx)
          | halt x w'=>simp only [zG] at I
        · rw [aUr (by rw [kQ];decide)]
          exact Hz f _ _ _ aw _ hw
      · exact aWE (λ a' w' av=>Hz f _ _ _ av.2 _ (Ext.bK w')) (aa w hw)⟩
theorem afO {i:Nat} {dL:Oper} {v:Value} (aq:ops[i]? =some dL) (aw:a6 i≤1) (nH:∀ (j:Nat) (o:Oper) cs b,ops[j]? =some o→o.op≠ .select cs b)
    (il:∀ c a w,¬ Q (.panic c) a w) (ax:World→Act→Prop) (lQ:∀ w0 a,ax w0 a→vC F P ops w0 dL v a)
    (z2:∀ w0 a a',ax w0 a→execOp a'.eval dL=execOp a.eval dL→Region.wanted dL (yielded ops a'.tmps)=Region.wanted dL (yielded ops a.tmps)→ax w0 a')
    (z3:∀ w0 aP a,Mod F w0 aP→ax w0 a→ax aP a) (R:Nat→Bool) (xX:Array Bool)
    (hR:∀ j dm,ops[j]? =some dm→j≠i→(∀ e∈dm.after,Region.binds .any e=true→R e.on=true)→R j=true)
    (ba:(∀ w0 aP a,ax w0 a→ax aP a)∨∀ j,R j=true→3≤a6 j→xX.getD j true=true):
    ∀ (f:Nat) (l:Array Bool) (a:Act) (w0:World),(∀ j,l.getD j false=true→R j=true)→(∀ j,xX.getD j true=true→l.getD j true=true)→
      (∀ j dm,ops[j]? =some dm→j≠i→l.getD j true=false→(∀ e∈dm.after,Region.binds .any e=true→e.on≠i)→dL.apart ops dm=true)→
      i∈Region.ready .any ops l→ax w0 a→KW F P ops Q a6 f (l.setIfInBounds i true) (a.put dL.dst v) w0→KW F P ops Q a6 (f+1) l a w0:=by
  intro f;induction f with
  | zero =>
    intro l a w0 _ _ _ hr bB H;refine ⟨λ h=>(by rw [h] at hr;cases hr),λ j aA=> ?_⟩;by_cases hY:j=i
    · subst hY;exact ⟨dL,aq, .inl ⟨aw,v,lQ _ _ bB,H⟩⟩
    · have:=aWQ aA hY
      rw [H.1] at this;cases this
  | succ f bI =>
    intro l a w0 Dq Dn Dj hr bB H;refine ⟨λ h=>(by rw [h] at hr;cases hr),λ j aA=> ?_⟩;by_cases hY:j=i
    · subst hY;exact ⟨dL,aq, .inl ⟨aw,v,lQ _ _ bB,H⟩⟩
    · obtain ⟨dm,kP,γ⟩:=H.2 j (aWQ aA hY)
      obtain ⟨xO,gP,Dz,dB⟩:=aXu.1 aA;obtain rfl:gP=dm:=by rw [kP] at Dz;exact (aUh Dz).symm
      have Mi:∀ e∈gP.after,Region.binds .any e=true→e.on≠i:=λ e he Φ heq=>by
        have γ:=dB e he Φ;have aI:=(aXu.1 hr).1;rw [heq] at γ;rcases aVf i l.size with dk | dk
        · simp [dk] at aI γ;rw [aI] at γ;cases γ
        · simp [aVi dk] at γ
      have LW:=Dj j gP kP hY xO Mi;obtain ⟨cy,a2,a3⟩:=aYz LW;have Mv:∀ cs b,dL.op≠ .select cs b:=λ cs b=>nH i dL cs b aq;have xT:∀ cs b,gP.op≠ .select cs b:=λ cs b=>nH j gP cs b kP;have keep:∀ aP a u,ax aP a→ax aP (a.put gP.dst u):=λ aP a u bB=>z2 _ _ _ bB (aW0 dL Mv a gP.dst u a3) (aXc dL a gP.dst u a3);have Da:R j=true:=hR j gP kP hY λ e he Φ=>Dq _ (dB e he Φ);have Dr:∀ k,(l.setIfInBounds j true).getD k false=true→R k=true:=λ k aw=>by
        by_cases hg:j=k
        · rw [← hg];exact Da
        · rw [aWy false hg] at aw;exact Dq k aw
      have Dp:∀ k,xX.getD k true=true→(l.setIfInBounds j true).getD k true=true:=λ k aw=>by
        by_cases hg:j=k
        · subst hg
          rcases aVf j l.size with dk | dk
          · simp [dk]
          · simp [aVi dk]
        · rw [aWy true hg];exact Dn k aw
      have Dk:∀ k ok,ops[k]? =some ok→k≠i→(l.setIfInBounds j true).getD k true=false→
          (∀ e∈ok.after,Region.binds .any e=true→e.on≠i)→dL.apart ops ok=true:=λ k ok aw p1 DC kO=>by
        refine Dj k ok aw p1 ?_ kO;by_cases hg:j=k
        · subst hg;exact xO
        · rw [aWy true hg] at DC;exact DC
      have DB:=aWQ hr (aW4 hY);rcases γ with ⟨xP,u,I,hK⟩ | ⟨xP,γ⟩
      · refine ⟨gP,kP, .inl ⟨xP,u,I.of_same (aW0 gP xT a dL.dst v cy).symm (aXc gP a dL.dst v cy).symm, ?_⟩⟩
        refine bI _ _ _ Dr Dp Dk DB (keep _ _ _ bB) ?_;rw [aVQ _ _ hY,← aWi a v u a2];exact hK
      · refine ⟨gP,kP, .inr ⟨xP,λ w hw=> ?_⟩⟩
        refine aWE (λ a' w' av=>⟨av.2.1, ?_⟩) (aaw (ax:=ax w0) kP cy a2 xT il (keep w0) (λ a d bB=>z2 _ _ _ bB Z Z) bB (γ w hw));have Mz:ax w' a':=by
          rcases aVf (a6 j) 3 with bE | uJ
          · exact z3 _ _ _ (av.2.1 (by omega)) av.1
          · rcases ba with ba | ba
            · exact ba _ _ _ av.1
            · have:=Dn j (ba j Da uJ);rw [xO] at this;cases this
        refine bI _ _ _ Dr Dp Dk DB Mz ?_;rw [aVQ _ _ hY];exact av.2.2
def JX (F:List Nat) (P:Program) (ops:Array Oper) (Q:Exit→Act→World→Prop) (a6:Nat→Nat):List Nat→Act→World→Prop
  | [],a,w0=>∀ w,Ext w0 w→Q .normal a w
  | i::r,a,w0=>∃ o,ops[i]? =some o∧
      ((a6 i=0∧∃ v,vC F P ops w0 o v a∧JX F P ops Q a6 r (a.put o.dst v) w0)∨
       (a6 i=1∧∃ v,Yields P ops o v a∧JX F P ops Q a6 r (a.put o.dst v) w0)∨
       (1<a6 i∧∀ w,Ext w0 w→wpOp P ops Q i (λ a' w'=>(a6 i=2→Mod F w0 w')∧JX F P ops Q a6 r a' w') a w))
theorem PH (hs:Region.noSelect ops=true) (il:∀ c a w,¬ Q (.panic c) a w):∀ (r:List Nat) (l:Array Bool) (a:Act) (w0:World),l.size=ops.size→kl ops a6 r l=true→JX F P ops Q a6 r a w0→KW F P ops Q a6 r.length l a w0
  | [],l,a,w0,_,ba,h=>⟨by simpa [kl] using ba,h⟩
  | i::r,l,a,w0,aB,ba,h=>by
    obtain ⟨o,b5,h⟩:=h;have nH:=aW2 hs;rcases h with ⟨aw,v,I,hK⟩ | ⟨aw,v,I,hK⟩ | ⟨aw,h⟩
    · simp only [kl,aw,aUp] at ba
      obtain ⟨⟨⟨hf,hr⟩,Φ⟩,ba⟩:=ba;obtain ⟨R,r1,r2,yf⟩:=PS aB Φ;exact afO b5 (by omega) nH il (λ w0 a=>vC F P ops w0 o v a) (λ _ _ h=>h) (λ _ _ _ h he hw=>h.of_same he hw) (λ _ _ _ hx h=>h.on hx) R l r1 (.inr yf) _ _ _ _ r2 (λ _ h=>h) (aV0 b5 hf) (by simpa using hr) I
        (PH hs il r _ _ _ (by simpa using aB) ba hK)
    · simp only [kl,aw,aUp] at ba
      obtain ⟨⟨hf,hr⟩,ba⟩:=ba;exact afO b5 (by omega) nH il (λ _ a=>Yields P ops o v a) (λ _ _ h=>Yields.aDr h) (λ _ _ _ h he hw=>h.of_same he hw) (λ _ _ _ _ h=>h) (λ _=>true) l (λ _ _ _ _ _=>Z) (.inl λ _ _ _ h=>h) _ _ _ _ (λ _ _=>Z) (λ _ h=>h) (aV0 b5 hf) (by simpa using hr) I
        (PH hs il r _ _ _ (by simpa using aB) ba hK)
    · obtain ⟨k,gv⟩:∃ k,a6 i=k+2:=⟨a6 i - 2,by omega⟩
      simp only [kl,gv,aUp,aVh] at ba;obtain ⟨hr,ba⟩:=ba;refine ⟨λ aI=>(by rw [hr] at aI;cases aI),λ j aA=> ?_⟩;rw [hr] at aA;obtain rfl:j=i:=by simpa using aA
      exact ⟨o,b5, .inr ⟨aw,λ w hw=>aWE (λ a' w' av=>⟨av.1,PH hs il r _ _ _ (by simpa using aB) ba av.2⟩) (h w hw)⟩⟩
theorem aDB {id:Nat} {a:Act} {w:World} (bZ:List Nat) (hm:P.follows .mixedOrders=true) (ba:(Region.noSelect ops && (bZ.length == ops.size) && kl ops a6 bZ (Array.replicate ops.size false))=true)
    (h:JX F P ops (gO (Q .normal)) a6 bZ a w):(Code.region id ops true).wp P Q a w:=by
  simp only [aUp,aVh] at ba;obtain ⟨⟨hs,aB⟩,ba⟩:=ba;refine aY2 (aXm hm (Q:=gO (Q .normal)) ?_) (λ e a w I=>by cases e<;>first | exact I | exact I.elim);have:=PH (P:=P) hs (Q:=gO (Q .normal)) (λ _ _ _ h=>h) bZ (Array.replicate ops.size false) a w (by simp) ba h;rw [aB] at this;exact Hz _ _ _ _ this _ (aUN _ w).drew
end
section
variable {F:List Nat} {P:Program} {n:Nat} {E c0:List (Nat×Value)} {a:Act} {w w' w0 aP:World} {Q:Exit→Act→World→Prop} {ops:Array Oper} {v:Value} {a6:Nat→Nat}
variable {d:Option Nat} {ty:TypeId} {pos:String} {af:Array Edge} {g:Option (Nat×Bool)} {x y z:Operand} {t:TypeId} {rest:List Oper} {bZ:List Nat} {i:Nat}
def yI (F:List Nat) (P:Program) (n:Nat) (ops:Array Oper) (Q:Exit→Act→World→Prop) (a6:Nat→Nat) (bZ:List Nat) (E:List (Nat×Value)) (w0:World):Prop:=∀ a,ew n E a→JX F P ops (gO (Q .normal)) a6 bZ a w0
theorem SC {id:Nat} (F:List Nat) (kS:List (Nat×Nat)) (bZ:List Nat) (hm:P.follows .mixedOrders=true) (ba:(Region.noSelect ops && (bZ.length == ops.size) && kl ops (mn kS) bZ (Array.replicate ops.size false))=true)
    (h:yI F P n ops Q (mn kS) bZ E w):W P n (.region id ops true) Q E w:=λ a ha=>aDB bZ hm ba (h a ha)
theorem QK (h:∀ w,Ext w0 w→N n Q E w):yI F P n ops Q a6 [] E w0:=λ a ha w hw=>h w hw a ha
theorem y9 {d:Nat} {op:Op} (aq:ops[i]? =some ⟨some d,op,ty,pos,af,none⟩) (aw:a6 i=0) (hr:∀ w,Mod F w0 w→cT P E ⟨some d,op,ty,pos,af,none⟩ w v w) (hd:Nat.blt d n=true)
    (h:yI F P n ops Q a6 bZ ((d,v)::E) w0):yI F P n ops Q a6 (i::bZ) E w0:=λ a ha =>
  ⟨_,aq, .inl ⟨aw,v, .inl ⟨yp rfl,λ w hw=>by rw [hr w hw n a ha];exact ⟨rfl,rfl⟩⟩,h _ (ha.put hd v)⟩⟩
theorem jF {d:Nat} {op:Op} (aq:ops[i]? =some ⟨some d,op,ty,pos,af,none⟩) (aw:a6 i=1) (hr:∀ w,cT P E ⟨some d,op,ty,pos,af,none⟩ w v w) (hd:Nat.blt d n=true)
    (h:yI F P n ops Q a6 bZ ((d,v)::E) w0):yI F P n ops Q a6 (i::bZ) E w0:=λ a ha =>
  ⟨_,aq, .inr (.inl ⟨aw,v, .inl ⟨yp rfl,λ w=>hr w n a ha⟩,h _ (ha.put hd v)⟩)⟩
theorem Fu {o:Oper} (aS:o.guard=none) (aq:ops[i]? =some o) (aw:a6 i=2) (h:∀ w,Ext w0 w→E_ P n ops o E w λ c0 w'=>Mod F w0 w'∧yI F P n ops Q a6 bZ c0 w'):yI F P n ops Q a6 (i::bZ) E w0:=λ a ha =>
  ⟨_,aq, .inr (.inr ⟨by omega,λ w hw=>Jt aS aq (h w hw) (λ c0 w' a' aw rX=>⟨λ _=>aw.1,aw.2 a' rX⟩) ha⟩)⟩
theorem We {o:Oper} (aS:o.guard=none) (aq:ops[i]? =some o) (aw:a6 i=3) (h:∀ w,Ext w0 w→E_ P n ops o E w λ c0 w'=>yI F P n ops Q a6 bZ c0 w'):yI F P n ops Q a6 (i::bZ) E w0:=λ a ha =>
  ⟨_,aq, .inr (.inr ⟨by omega,λ w hw=>Jt aS aq (h w hw) (λ c0 w' a' aw rX=>⟨λ aa=>by omega,aw a' rX⟩) ha⟩)⟩
end
end
end Go.Proofs.YtlikikpgmmkjbaaGreat
