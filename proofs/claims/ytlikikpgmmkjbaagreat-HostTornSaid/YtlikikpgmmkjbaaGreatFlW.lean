import Derived.Test.YtlikikpgmmkjbaaGreatOrds
set_option linter.unusedVariables false
set_option linter.unusedSimpArgs false
set_option maxRecDepth 100000
set_option maxHeartbeats 4000000
open Go.RowKit
namespace Go.Proofs.YtlikikpgmmkjbaaGreat
open Tryz
abbrev aR8:=@List.flatMap_append
abbrev aSl:=@List.flatMap_cons
abbrev aSX:=@List.flatMap_nil
abbrev aVr:=@Option.map_eq_none_iff
section
theorem anH:fh prog dh.rep 123 223 16:=fh.lF (z:=dh.zero) (k:=2) underlying123 dh.info rfl rfl (by decide) dh.iC
theorem anI:fh prog dj.rep 124 225 24:=fh.lF (z:=dj.zero) (k:=3) underlying124 dj.info rfl rfl (by decide) dj.iC
theorem SQ:fh prog ch.rep 125 178 40:=fh.lF (z:=ch.zero) (k:=5) underlying125 ch.info rfl rfl (by decide) ch.iC
def ni (o:aN):List dh:=if o.kind=1 then [⟨o.aS,o.what⟩] else []
def nk (o:aN):List dj:=if o.kind=2 then [⟨o.aS,⟨o.spot.x,o.spot.y⟩⟩] else []
def nj (o:aN):List ch:=if o.kind=3 then [⟨1,o.aS,⟨o.spot.x,o.spot.y⟩,0⟩] else if o.kind=4 then [⟨2,o.aS,⟨0,0⟩,0⟩] else if o.kind=5 then [⟨3,o.by_,⟨0,0⟩,o.what⟩] else []
theorem abb (o:aN) (w0:World) (td:Nat) (A B C:Option Addr) (a b c:Nat) (sB:List dh) (xm:List dj) (yW:List ch) (w:World) (iL:Ext w0 w) (ea:o.ok) (hS:aQ w td [.slice A sB.length a, .slice B xm.length b, .slice C yW.length c] 169 (0,0)) (hA:dh.rep.aG 223 16 w w0.heap.size (τ.ae A) A a sB) (bc:dj.rep.aG 225 24 w w0.heap.size (τ.ae B) B b xm) (dI:ch.rep.aG 178 40 w w0.heap.size (τ.ae C) C c yW) (uZ:∀ q∈τ.ae A,q=td→False) (u0:∀ q∈τ.ae B,q=td→False) (r9:∀ q∈τ.ae C,q=td→False) (BG:∀ q∈τ.ae B,q∈τ.ae A→False) (yf:∀ q∈τ.ae C,q∈τ.ae A→False) (yg:∀ q∈τ.ae C,q∈τ.ae B→False) (EW:sB.length≤100) (tY:xm.length≤100) (pM:yW.length≤100):
  Calls prog 94 #[.pointer (some ⟨td,0,none⟩), .agg #[.int .i64 o.by_, .int .i64 o.kind, .int .i64 o.aS, .int .i64 o.spot.x, .int .i64 o.spot.y, .int .i64 o.what]] w (λ e w'=>∃ bH a' qK pc Dp bV,e= .returned (.tuple #[])∧aQ w' td [.slice bH (sB++ni o).length a', .slice qK (xm++nk o).length pc, .slice Dp (yW++nj o).length bV] 169 (0,0)∧dh.rep.aG 223 16 w' w0.heap.size (τ.ae bH) bH a' (sB++ni o)∧dj.rep.aG 225 24 w' w0.heap.size (τ.ae qK) qK pc (xm++nk o)∧ch.rep.aG 178 40 w' w0.heap.size (τ.ae Dp) Dp bV (yW++nj o)∧(∀ q∈τ.ae bH,q=td→False)∧(∀ q∈τ.ae qK,q=td→False)∧(∀ q∈τ.ae Dp,q=td→False)∧(∀ q∈τ.ae qK,q∈τ.ae bH→False)∧(∀ q∈τ.ae Dp,q∈τ.ae bH→False)∧(∀ q∈τ.ae Dp,q∈τ.ae qK→False)∧(∀ q∈τ.ae bH,q∈τ.ae A∨w.heap.size≤q)∧(∀ q∈τ.ae qK,q∈τ.ae B∨w.heap.size≤q)∧(∀ q∈τ.ae Dp,q∈τ.ae C∨w.heap.size≤q)∧Mod (td::(τ.ae A++(τ.ae B++τ.ae C))) w w'):=by
 have aKh:=iL.size;have kB:=hS.lt;have Mi:=λ q I=>(hA.lt q I).2;have Q':=λ q I=>(bc.lt q I).2;have akC:=λ q I=>(dI.lt q I).2;have aKK:∀ q∈τ.ae A,w0.heap.size≤q:=λ q I=>(hA.lt q I).1;have WB:∀ q∈τ.ae B,w0.heap.size≤q:=λ q I=>(bc.lt q I).1;have aKL:∀ q∈τ.ae C,w0.heap.size≤q:=λ q I=>(dI.lt q I).1;refine cd (n:=84) func94 Z Z Z ?_;refine aj<|cB Z Z Z Z λ cO bJ ba eb aa=> ?_;have:=ba.size;have bk:=(Mod.bI (td::(τ.ae A++(τ.ae B++τ.ae C))) w).trans (Mod.bD ba);have eh:=aa.lt;refine ai<|aj<|J (au ph Z)<|J (ao Z (aa.one bd Z))<|ai<|bR<|aj<|J (beq Z Z)<|va Z<|ai<| ?_;refine jI Z (λ qg=> ?_) (λ qg=> ?_)
 ·refine rd [(4,0),(6,0),(8,0),(10,2),(11,3),(14,3)] [0,1,2,3,4,5,6,7,8,9,10,11,12,13,14] (by kernel_rfl) (by kernel_rfl) ?_;refine aq Z (λ _=>aH Z)<|aq Z (λ _=>aH Z)<|aq Z (λ _=>bY Z)<|aq Z (λ _=>au TT Z)<| ?_;have hS:=hS.later ba;refine bE Z (λ _ x=>ao Z ((hS.later x).one adj Z))<|aq Z (λ _=>au BK Z)<|bE Z (λ _ x=>ao Z ((aa.later x).one bd Z))<|aq Z (λ _=>au BM Z)<|bE Z (λ _ x=>ao Z ((aa.later x).one bd Z))<|q7 (v:= .agg #[.int .i64 o.aS, .int .i64 o.what]) Z Z (λ _=>cG Z (by kernel_rfl)) Z<|fG Z Z Z λ vI bm Q hK=>cX (e:= 223) (cs:= [.int .i64 o.aS, .int .i64 o.what]) Z (λ _=>by kernel_rfl) Z λ uj yb dm Lq fS=>hK _ _ ⟨κ bm dm, ?_⟩;have:=bm.size;have kk:=bk.trans (Mod.bD bm);have:=dm.size;have jB:=kk.trans (Mod.bD dm);have aAt:=fS.lt;have hA:=hA.later (κ ba (κ bm dm));refine eo Z Z Z λ H9 ux Q hK=>ap anH τ.dC (hA.later ux) ((aQ.gJ (R:=dh.rep) (by_:=16) (q:=(⟨o.aS,o.what⟩:dh)) fS ⟨Z,(by obtain ⟨EY,oK,lG,nh,nS,pO⟩:=ea;exact ⟨lG,pO⟩)⟩ (by decide)).keep ux) Z Z (by simp only [aQQ,aQX];omega) (by simp only [aQQ,aQX];omega) (by have:=ux.size;omega) Z λ xx Di Ts k8 s6 GI ayT=>hK _ _ ?_;have:=ux.size;have uA:=jB.trans (Mod.bD ux);have:=k8.size;have jC:=uA.md k8 (λ q I=> .inl (aQ1 _ (aQ0.2 (.inl I))));have aCS:=λ q I=>(s6.lt q I).2;have:=k8.size;refine aq Z (λ _=>bY Z)<|aq Z (λ _=>au TT Z)<| ?_;have hS:=hS.later (κ bm (κ dm ux));have hS:=hS.mod k8 (λ I=>uZ _ I rfl);refine eo Z Z Z λ xy hJ Q hK=>st (new:= [.slice Di ((sB++ [(⟨o.aS,o.what⟩:dh)]).length) Ts, .slice B xm.length b, .slice C yW.length c]) Z Z (hS.later hJ) Z arf Z Z Z λ Fj jT hS=>hK _ _ ?_;have:=hJ.size;have ln:=jC.trans (Mod.bD hJ);have:=jT.size;have qC:=ln.md jT (λ q I=> .inl (by rw [aQJ.1 I];exact aRa));refine fn λ vH eT=> ?_;have:=eT.size;have lQ:=qC.trans (Mod.bD eT);refine bX<|ne<|bb .nil<| ?_;have hS:=hS.later eT;have s6:=s6.later hJ;have s6:=s6.mod jT (λ q I h=>by have Φ:=aQJ.1 h;exfalso;(exact aQ2 (GI q I) (λ ahu=>by (exact uZ q ahu Φ)) (λ ahu=>by omega)));have s6:=s6.later eT;have bc:=bc.later (κ ba (κ bm (κ dm ux)));have bc:=bc.mod k8 (λ q I h=>by exfalso;(exact BG q I h));have bc:=bc.later hJ;have bc:=bc.mod jT (λ q I h=>by have Φ:=aQJ.1 h;exfalso;(exact u0 q I Φ));have bc:=bc.later eT;have dI:=dI.later (κ ba (κ bm (κ dm ux)));have dI:=dI.mod k8 (λ q I h=>by exfalso;(exact yf q I h));have dI:=dI.later hJ;have dI:=dI.mod jT (λ q I h=>by have Φ:=aQJ.1 h;exfalso;(exact r9 q I Φ));have dI:=dI.later eT;have a_:ni o= [(⟨o.aS,o.what⟩:dh)]:=by unfold ni;simp [*]
  have bh:nk o= []:=by unfold nk;simp [*]
  have cD:nj o= []:=by unfold nj;simp [*]
  rw [a_,bh,cD];simp only [aRn];exact ⟨Di,Ts,B,b,C,c,Z,hS,s6,bc,dI,(λ q I Φ=>by (exact aQ2 (GI q I) (λ ahv=>by (exact uZ q ahv Φ)) (λ ahv=>by omega))),(λ q I Φ=>by (exact u0 q I Φ)),(λ q I Φ=>by (exact r9 q I Φ)),(λ q I Φ=>by (exact aQ2 (GI q Φ) (λ ahw=>by (exact BG q I ahw)) (λ ahw=>by (have:=Q' q I;omega)))),(λ q I Φ=>by (exact aQ2 (GI q Φ) (λ P'=>by (exact yf q I P')) (λ P'=>by (have:=akC q I;omega)))),(λ q I Φ=>by (exact yg q I Φ)),(λ q I=>(GI q I).imp id λ h=>by omega),(λ q I=> .inl I),(λ q I=> .inl I),lQ⟩
 ·refine aj<|J (beq Z Z)<|va Z<|ai<| ?_;refine jI Z (λ Ke=> ?_) (λ Ke=> ?_)
  ·refine rd [(4,0),(6,0),(8,0),(10,2),(11,3),(14,3)] [0,1,2,3,4,5,6,7,8,9,10,11,12,13,14] (by kernel_rfl) (by kernel_rfl) ?_;refine aq Z (λ _=>aH Z)<|aq Z (λ _=>aH Z)<|aq Z (λ _=>bY Z)<|aq Z (λ _=>au TU Z)<| ?_;have hS:=hS.later ba;refine bE Z (λ _ x=>ao Z ((hS.later x).one adl Z))<|aq Z (λ _=>au BK Z)<|bE Z (λ _ x=>ao Z ((aa.later x).one bd Z))<|aq Z (λ _=>au BL Z)<|bE Z (λ _ x=>ao Z ((aa.later x).par [.int .i64 o.spot.x, .int .i64 o.spot.y] cf bS Z))<|q7 (v:= .agg #[.int .i64 o.aS, .int .i64 o.spot.x, .int .i64 o.spot.y]) Z Z (λ _=>cG Z (by kernel_rfl)) Z<|fG Z Z Z λ Fl ho Q hK=>cX (e:= 225) (cs:= [.int .i64 o.aS, .int .i64 o.spot.x, .int .i64 o.spot.y]) Z (λ _=>by kernel_rfl) Z λ Rz zP ee ahZ uI=>hK _ _ ⟨κ ho ee, ?_⟩;have:=ho.size;have sT:=bk.trans (Mod.bD ho);have:=ee.size;have A5:=sT.trans (Mod.bD ee);have HO:=uI.lt;have bc:=bc.later (κ ba (κ ho ee));refine eo Z Z Z λ pW dM Q hK=>ap anI τ.dC (bc.later dM) ((aQ.gJ (R:=dj.rep) (by_:=24) (q:=(⟨o.aS,⟨o.spot.x,o.spot.y⟩⟩:dj)) uI ⟨Z,(by obtain ⟨EY,oK,lG,nh,nS,pO⟩:=ea;exact ⟨lG,nh,nS⟩)⟩ (by decide)).keep dM) Z Z (by simp only [aQQ,aQX];omega) (by simp only [aQQ,aQX];omega) (by have:=dM.size;omega) Z λ ale Zn abX yN Bs JZ aMU=>hK _ _ ?_;have:=dM.size;have hy:=A5.trans (Mod.bD dM);have:=yN.size;have MV:=hy.md yN (λ q I=> .inl (aQ1 _ (aQ0.2 (.inr (aQ0.2 (.inl I))))));have Rl:=λ q I=>(Bs.lt q I).2;have:=yN.size;refine aq Z (λ _=>bY Z)<|aq Z (λ _=>au TU Z)<| ?_;have hS:=hS.later (κ ho (κ ee dM));have hS:=hS.mod yN (λ I=>u0 _ I rfl);refine eo Z Z Z λ My qA Q hK=>st (new:= [.slice A sB.length a, .slice Zn ((xm++ [(⟨o.aS,⟨o.spot.x,o.spot.y⟩⟩:dj)]).length) abX, .slice C yW.length c]) Z Z (hS.later qA) Z arh Z Z Z λ YA sv hS=>hK _ _ ?_;have:=qA.size;have xL:=MV.trans (Mod.bD qA);have:=sv.size;have FI:=xL.md sv (λ q I=> .inl (by rw [aQJ.1 I];exact aRa));refine fn λ RE dw=> ?_;have:=dw.size;have sU:=FI.trans (Mod.bD dw);refine bX<|ne<|bb .nil<| ?_;have hS:=hS.later dw;have hA:=hA.later (κ ba (κ ho (κ ee dM)));have hA:=hA.mod yN (λ q I h=>by exfalso;(exact BG q h I));have hA:=hA.later qA;have hA:=hA.mod sv (λ q I h=>by have Φ:=aQJ.1 h;exfalso;(exact uZ q I Φ));have hA:=hA.later dw;have Bs:=Bs.later qA;have Bs:=Bs.mod sv (λ q I h=>by have Φ:=aQJ.1 h;exfalso;(exact aQ2 (JZ q I) (λ Ln=>by (exact u0 q Ln Φ)) (λ Ln=>by omega)));have Bs:=Bs.later dw;have dI:=dI.later (κ ba (κ ho (κ ee dM)));have dI:=dI.mod yN (λ q I h=>by exfalso;(exact yg q I h));have dI:=dI.later qA;have dI:=dI.mod sv (λ q I h=>by have Φ:=aQJ.1 h;exfalso;(exact r9 q I Φ));have dI:=dI.later dw;have a_:ni o= []:=by unfold ni;simp [*]
   have bh:nk o= [(⟨o.aS,⟨o.spot.x,o.spot.y⟩⟩:dj)]:=by unfold nk;simp [*]
   have cD:nj o= []:=by unfold nj;simp [*]
   rw [a_,bh,cD];simp only [aRn];exact ⟨A,a,Zn,abX,C,c,Z,hS,hA,Bs,dI,(λ q I Φ=>by (exact uZ q I Φ)),(λ q I Φ=>by (exact aQ2 (JZ q I) (λ ahD=>by (exact u0 q ahD Φ)) (λ ahD=>by omega))),(λ q I Φ=>by (exact r9 q I Φ)),(λ q I Φ=>by (exact aQ2 (JZ q I) (λ Cp=>by (exact BG q Cp Φ)) (λ Cp=>by (have:=Mi q Φ;omega)))),(λ q I Φ=>by (exact yf q I Φ)),(λ q I Φ=>by (exact aQ2 (JZ q Φ) (λ Lo=>by (exact yg q I Lo)) (λ Lo=>by (have:=akC q I;omega)))),(λ q I=> .inl I),(λ q I=>(JZ q I).imp id λ h=>by omega),(λ q I=> .inl I),sU⟩
  ·refine aj<|J (beq Z Z)<|va Z<|ai<| ?_;refine jI Z (λ tF=> ?_) (λ tF=> ?_)
   ·refine rd [(4,0),(6,0),(8,0),(10,2),(11,3),(14,3)] [0,1,2,3,4,5,6,7,8,9,10,11,12,13,14] (by kernel_rfl) (by kernel_rfl) ?_;refine aq Z (λ _=>aH Z)<|aq Z (λ _=>aH Z)<|aq Z (λ _=>bY Z)<|aq Z (λ _=>au D8 Z)<| ?_;have hS:=hS.later ba;refine bE Z (λ _ x=>ao Z ((hS.later x).one OH Z))<|aq Z (λ _=>au BK Z)<|bE Z (λ _ x=>ao Z ((aa.later x).one bd Z))<|aq Z (λ _=>au BL Z)<|bE Z (λ _ x=>ao Z ((aa.later x).par [.int .i64 o.spot.x, .int .i64 o.spot.y] cf bS Z))<|q7 (v:= .agg #[.int .i64 1, .int .i64 o.aS, .int .i64 o.spot.x, .int .i64 o.spot.y, .int .i64 0]) Z Z (λ _=>cG Z (by kernel_rfl)) Z<|fG Z Z Z λ Mz gD Q hK=>cX (e:= 178) (cs:= [.int .i64 1, .int .i64 o.aS, .int .i64 o.spot.x, .int .i64 o.spot.y, .int .i64 0]) Z (λ _=>by kernel_rfl) Z λ Ig aHB rM aLU Nf=>hK _ _ ⟨κ gD rM, ?_⟩;have:=gD.size;have vS:=bk.trans (Mod.bD gD);have:=rM.size;have kH:=vS.trans (Mod.bD rM);have aOn:=Nf.lt;have dI:=dI.later (κ ba (κ gD rM));refine eo Z Z Z λ YI Dd Q hK=>ap SQ τ.dC (dI.later Dd) ((aQ.gJ (R:=ch.rep) (by_:=40) (q:=(⟨1,o.aS,⟨o.spot.x,o.spot.y⟩,0⟩:ch)) Nf ⟨Z,(by obtain ⟨EY,oK,lG,nh,nS,pO⟩:=ea;exact ⟨bM.2 (by (try dsimp only);omega),lG,nh,nS,bM.2 (by (try dsimp only);omega)⟩)⟩ (by decide)).keep Dd) Z Z (by simp only [aQQ,aQX];omega) (by simp only [aQQ,aQX];omega) (by have:=Dd.size;omega) Z λ YJ Zp abY w_ Bm JU aMu=>hK _ _ ?_;have:=Dd.size;have FO:=kH.trans (Mod.bD Dd);have:=w_.size;have FP:=FO.md w_ (λ q I=> .inl (aQ1 _ (aQ0.2 (.inr (aQ0.2 (.inr I))))));have aOZ:=λ q I=>(Bm.lt q I).2;have:=w_.size;refine aq Z (λ _=>bY Z)<|aq Z (λ _=>au D8 Z)<| ?_;have hS:=hS.later (κ gD (κ rM Dd));have hS:=hS.mod w_ (λ I=>r9 _ I rfl);refine eo Z Z Z λ aDA jx Q hK=>st (new:= [.slice A sB.length a, .slice B xm.length b, .slice Zp ((yW++ [(⟨1,o.aS,⟨o.spot.x,o.spot.y⟩,0⟩:ch)]).length) abY]) Z Z (hS.later jx) Z TV Z Z Z λ aDB tR hS=>hK _ _ ?_;have:=jx.size;have YV:=FP.trans (Mod.bD jx);have:=tR.size;have YW:=YV.md tR (λ q I=> .inl (by rw [aQJ.1 I];exact aRa));refine fn λ Yv ur=> ?_;have:=ur.size;have FE:=YW.trans (Mod.bD ur);refine bX<|ne<|bb .nil<| ?_;have hS:=hS.later ur;have hA:=hA.later (κ ba (κ gD (κ rM Dd)));have hA:=hA.mod w_ (λ q I h=>by exfalso;(exact yf q h I));have hA:=hA.later jx;have hA:=hA.mod tR (λ q I h=>by have Φ:=aQJ.1 h;exfalso;(exact uZ q I Φ));have hA:=hA.later ur;have bc:=bc.later (κ ba (κ gD (κ rM Dd)));have bc:=bc.mod w_ (λ q I h=>by exfalso;(exact yg q h I));have bc:=bc.later jx;have bc:=bc.mod tR (λ q I h=>by have Φ:=aQJ.1 h;exfalso;(exact u0 q I Φ));have bc:=bc.later ur;have Bm:=Bm.later jx;have Bm:=Bm.mod tR (λ q I h=>by have Φ:=aQJ.1 h;exfalso;(exact aQ2 (JU q I) (λ Cn=>by (exact r9 q Cn Φ)) (λ Cn=>by omega)));have Bm:=Bm.later ur;have a_:ni o= []:=by unfold ni;simp [*]
    have bh:nk o= []:=by unfold nk;simp [*]
    have cD:nj o= [(⟨1,o.aS,⟨o.spot.x,o.spot.y⟩,0⟩:ch)]:=by unfold nj;simp [*]
    rw [a_,bh,cD];simp only [aRn];exact ⟨A,a,B,b,Zp,abY,Z,hS,hA,bc,Bm,(λ q I Φ=>by (exact uZ q I Φ)),(λ q I Φ=>by (exact u0 q I Φ)),(λ q I Φ=>by (exact aQ2 (JU q I) (λ K'=>by (exact r9 q K' Φ)) (λ K'=>by omega))),(λ q I Φ=>by (exact BG q I Φ)),(λ q I Φ=>by (exact aQ2 (JU q I) (λ La=>by (exact yf q La Φ)) (λ La=>by (have:=Mi q Φ;omega)))),(λ q I Φ=>by (exact aQ2 (JU q I) (λ Lb=>by (exact yg q Lb Φ)) (λ Lb=>by (have:=Q' q Φ;omega)))),(λ q I=> .inl I),(λ q I=> .inl I),(λ q I=>(JU q I).imp id λ h=>by omega),FE⟩
   ·refine aj<|J (beq Z Z)<|va Z<|ai<| ?_;refine jI Z (λ atZ=> ?_) (λ atZ=> ?_)
    ·refine rd [(4,0),(6,0),(8,2),(9,3),(12,3)] [0,1,2,3,4,5,6,7,8,9,10,11,12] (by kernel_rfl) (by kernel_rfl) ?_;refine aq Z (λ _=>aH Z)<|aq Z (λ _=>aH Z)<|aq Z (λ _=>bY Z)<|aq Z (λ _=>au D8 Z)<| ?_;have hS:=hS.later ba;refine bE Z (λ _ x=>ao Z ((hS.later x).one OH Z))<|aq Z (λ _=>au BK Z)<|bE Z (λ _ x=>ao Z ((aa.later x).one bd Z))<|q7 (v:= .agg #[.int .i64 2, .int .i64 o.aS, .int .i64 0, .int .i64 0, .int .i64 0]) Z Z (λ _=>cG Z (by kernel_rfl)) Z<|fG Z Z Z λ aDF Fu Q hK=>cX (e:= 178) (cs:= [.int .i64 2, .int .i64 o.aS, .int .i64 0, .int .i64 0, .int .i64 0]) Z (λ _=>by kernel_rfl) Z λ aPO aGY Fv aK6 Zz=>hK _ _ ⟨κ Fu Fv, ?_⟩;have:=Fu.size;have Y0:=bk.trans (Mod.bD Fu);have:=Fv.size;have aEH:=Y0.trans (Mod.bD Fv);have aNw:=Zz.lt;have dI:=dI.later (κ ba (κ Fu Fv));refine eo Z Z Z λ ak5 C8 Q hK=>ap SQ τ.dC (dI.later C8) ((aQ.gJ (R:=ch.rep) (by_:=40) (q:=(⟨2,o.aS,⟨0,0⟩,0⟩:ch)) Zz ⟨Z,(by obtain ⟨EY,oK,lG,nh,nS,pO⟩:=ea;exact ⟨bM.2 (by (try dsimp only);omega),lG,bM.2 (by (try dsimp only);omega),bM.2 (by (try dsimp only);omega),bM.2 (by (try dsimp only);omega)⟩)⟩ (by decide)).keep C8) Z Z (by simp only [aQQ,aQX];omega) (by simp only [aQQ,aQX];omega) (by have:=C8.size;omega) Z λ ak6 Zh abR Hq Bn JW aMB=>hK _ _ ?_;have:=C8.size;have MM:=aEH.trans (Mod.bD C8);have:=Hq.size;have A4:=MM.md Hq (λ q I=> .inl (aQ1 _ (aQ0.2 (.inr (aQ0.2 (.inr I))))));have aO6:=λ q I=>(Bn.lt q I).2;have:=Hq.size;refine aq Z (λ _=>bY Z)<|aq Z (λ _=>au D8 Z)<| ?_;have hS:=hS.later (κ Fu (κ Fv C8));have hS:=hS.mod Hq (λ I=>r9 _ I rfl);refine eo Z Z Z λ aPX Io Q hK=>st (new:= [.slice A sB.length a, .slice B xm.length b, .slice Zh ((yW++ [(⟨2,o.aS,⟨0,0⟩,0⟩:ch)]).length) abR]) Z Z (hS.later Io) Z TV Z Z Z λ ak9 Ay hS=>hK _ _ ?_;have:=Io.size;have aEP:=A4.trans (Mod.bD Io);have:=Ay.size;have Iu:=aEP.md Ay (λ q I=> .inl (by rw [aQJ.1 I];exact aRa));refine fn λ aDL nt=> ?_;have:=nt.size;have Y4:=Iu.trans (Mod.bD nt);refine bX<|ne<|bb .nil<| ?_;have hS:=hS.later nt;have hA:=hA.later (κ ba (κ Fu (κ Fv C8)));have hA:=hA.mod Hq (λ q I h=>by exfalso;(exact yf q h I));have hA:=hA.later Io;have hA:=hA.mod Ay (λ q I h=>by have Φ:=aQJ.1 h;exfalso;(exact uZ q I Φ));have hA:=hA.later nt;have bc:=bc.later (κ ba (κ Fu (κ Fv C8)));have bc:=bc.mod Hq (λ q I h=>by exfalso;(exact yg q h I));have bc:=bc.later Io;have bc:=bc.mod Ay (λ q I h=>by have Φ:=aQJ.1 h;exfalso;(exact u0 q I Φ));have bc:=bc.later nt;have Bn:=Bn.later Io;have Bn:=Bn.mod Ay (λ q I h=>by have Φ:=aQJ.1 h;exfalso;(exact aQ2 (JW q I) (λ Co=>by (exact r9 q Co Φ)) (λ Co=>by omega)));have Bn:=Bn.later nt;have a_:ni o= []:=by unfold ni;simp [*]
     have bh:nk o= []:=by unfold nk;simp [*]
     have cD:nj o= [(⟨2,o.aS,⟨0,0⟩,0⟩:ch)]:=by unfold nj;simp [*]
     rw [a_,bh,cD];simp only [aRn];exact ⟨A,a,B,b,Zh,abR,Z,hS,hA,bc,Bn,(λ q I Φ=>by (exact uZ q I Φ)),(λ q I Φ=>by (exact u0 q I Φ)),(λ q I Φ=>by (exact aQ2 (JW q I) (λ Le=>by (exact r9 q Le Φ)) (λ Le=>by omega))),(λ q I Φ=>by (exact BG q I Φ)),(λ q I Φ=>by (exact aQ2 (JW q I) (λ Lf=>by (exact yf q Lf Φ)) (λ Lf=>by (have:=Mi q Φ;omega)))),(λ q I Φ=>by (exact aQ2 (JW q I) (λ Lg=>by (exact yg q Lg Φ)) (λ Lg=>by (have:=Q' q Φ;omega)))),(λ q I=> .inl I),(λ q I=> .inl I),(λ q I=>(JW q I).imp id λ h=>by omega),Y4⟩
    ·refine aj<|J (beq Z Z)<|va Z<|ai<| ?_;refine jI Z (λ at6=> ?_) (λ at6=> ?_)
     ·refine rd [(4,0),(6,0),(8,0),(10,2),(11,3),(14,3)] [0,1,2,3,4,5,6,7,8,9,10,11,12,13,14] (by kernel_rfl) (by kernel_rfl) ?_;refine aq Z (λ _=>aH Z)<|aq Z (λ _=>aH Z)<|aq Z (λ _=>bY Z)<|aq Z (λ _=>au D8 Z)<| ?_;have hS:=hS.later ba;refine bE Z (λ _ x=>ao Z ((hS.later x).one OH Z))<|aq Z (λ _=>au tx Z)<|bE Z (λ _ x=>ao Z ((aa.later x).one bd Z))<|aq Z (λ _=>au BM Z)<|bE Z (λ _ x=>ao Z ((aa.later x).one bd Z))<|q7 (v:= .agg #[.int .i64 3, .int .i64 o.by_, .int .i64 0, .int .i64 0, .int .i64 o.what]) Z Z (λ _=>cG Z (by kernel_rfl)) Z<|fG Z Z Z λ Rv Fy Q hK=>cX (e:= 178) (cs:= [.int .i64 3, .int .i64 o.by_, .int .i64 0, .int .i64 0, .int .i64 o.what]) Z (λ _=>by kernel_rfl) Z λ aDN aG8 Fz aLh ZG=>hK _ _ ⟨κ Fy Fz, ?_⟩;have:=Fy.size;have Y6:=bk.trans (Mod.bD Fy);have:=Fz.size;have Y7:=Y6.trans (Mod.bD Fz);have aNH:=ZG.lt;have dI:=dI.later (κ ba (κ Fy Fz));refine eo Z Z Z λ aP6 C_ Q hK=>ap SQ τ.dC (dI.later C_) ((aQ.gJ (R:=ch.rep) (by_:=40) (q:=(⟨3,o.by_,⟨0,0⟩,o.what⟩:ch)) ZG ⟨Z,(by obtain ⟨EY,oK,lG,nh,nS,pO⟩:=ea;exact ⟨bM.2 (by (try dsimp only);omega),EY,bM.2 (by (try dsimp only);omega),bM.2 (by (try dsimp only);omega),pO⟩)⟩ (by decide)).keep C_) Z Z (by simp only [aQQ,aQX];omega) (by simp only [aQQ,aQX];omega) (by have:=C_.size;omega) Z λ aP7 Zl abT Hu Bp JX aMJ=>hK _ _ ?_;have:=C_.size;have aEX:=Y7.trans (Mod.bD C_);have:=Hu.size;have aEY:=aEX.md Hu (λ q I=> .inl (aQ1 _ (aQ0.2 (.inr (aQ0.2 (.inr I))))));have aPd:=λ q I=>(Bp.lt q I).2;have:=Hu.size;refine aq Z (λ _=>bY Z)<|aq Z (λ _=>au D8 Z)<| ?_;have hS:=hS.later (κ Fy (κ Fz C_));have hS:=hS.mod Hu (λ I=>r9 _ I rfl);refine eo Z Z Z λ aQc Iq Q hK=>st (new:= [.slice A sB.length a, .slice B xm.length b, .slice Zl ((yW++ [(⟨3,o.by_,⟨0,0⟩,o.what⟩:ch)]).length) abT]) Z Z (hS.later Iq) Z TV Z Z Z λ aQd LI hS=>hK _ _ ?_;have:=Iq.size;have aE2:=aEY.trans (Mod.bD Iq);have:=LI.size;have aE3:=aE2.md LI (λ q I=> .inl (by rw [aQJ.1 I];exact aRa));refine fn λ aDP qy=> ?_;have:=qy.size;have Y8:=aE3.trans (Mod.bD qy);refine bX<|ne<|bb .nil<| ?_;have hS:=hS.later qy;have hA:=hA.later (κ ba (κ Fy (κ Fz C_)));have hA:=hA.mod Hu (λ q I h=>by exfalso;(exact yf q h I));have hA:=hA.later Iq;have hA:=hA.mod LI (λ q I h=>by have Φ:=aQJ.1 h;exfalso;(exact uZ q I Φ));have hA:=hA.later qy;have bc:=bc.later (κ ba (κ Fy (κ Fz C_)));have bc:=bc.mod Hu (λ q I h=>by exfalso;(exact yg q h I));have bc:=bc.later Iq;have bc:=bc.mod LI (λ q I h=>by have Φ:=aQJ.1 h;exfalso;(exact u0 q I Φ));have bc:=bc.later qy;have Bp:=Bp.later Iq;have Bp:=Bp.mod LI (λ q I h=>by have Φ:=aQJ.1 h;exfalso;(exact aQ2 (JX q I) (λ ag0=>by (exact r9 q ag0 Φ)) (λ ag0=>by omega)));have Bp:=Bp.later qy;have a_:ni o= []:=by unfold ni;simp [*]
      have bh:nk o= []:=by unfold nk;simp [*]
      have cD:nj o= [(⟨3,o.by_,⟨0,0⟩,o.what⟩:ch)]:=by unfold nj;simp [*]
      rw [a_,bh,cD];simp only [aRn];exact ⟨A,a,B,b,Zl,abT,Z,hS,hA,bc,Bp,(λ q I Φ=>by (exact uZ q I Φ)),(λ q I Φ=>by (exact u0 q I Φ)),(λ q I Φ=>by (exact aQ2 (JX q I) (λ ag1=>by (exact r9 q ag1 Φ)) (λ ag1=>by omega))),(λ q I Φ=>by (exact BG q I Φ)),(λ q I Φ=>by (exact aQ2 (JX q I) (λ Li=>by (exact yf q Li Φ)) (λ Li=>by (have:=Mi q Φ;omega)))),(λ q I Φ=>by (exact aQ2 (JX q I) (λ ag2=>by (exact yg q ag2 Φ)) (λ ag2=>by (have:=Q' q Φ;omega)))),(λ q I=> .inl I),(λ q I=> .inl I),(λ q I=>(JX q I).imp id λ h=>by omega),Y8⟩
     ·refine e6<|bX<|ne<|bb .nil<| ?_;have hS:=hS.later ba;have hA:=hA.later ba;have bc:=bc.later ba;have dI:=dI.later ba;have a_:ni o= []:=by unfold ni;simp [*]
      have bh:nk o= []:=by unfold nk;simp [*]
      have cD:nj o= []:=by unfold nj;simp [*]
      rw [a_,bh,cD];simp only [aRn];exact ⟨A,a,B,b,C,c,Z,hS,hA,bc,dI,(λ q I Φ=>by (exact uZ q I Φ)),(λ q I Φ=>by (exact u0 q I Φ)),(λ q I Φ=>by (exact r9 q I Φ)),(λ q I Φ=>by (exact BG q I Φ)),(λ q I Φ=>by (exact yf q I Φ)),(λ q I Φ=>by (exact yg q I Φ)),(λ q I=> .inl I),(λ q I=> .inl I),(λ q I=> .inl I),bk⟩
end
section
theorem LW {l:List aN} (h:hi l=0):l.length≤100∧∀ o∈l,o.bn=0:=by
 unfold hi at h;split at h
 ·cases h
 ·refine ⟨by omega,λ o b1=> ?_⟩;split at h
  ·rename_i x hx
   have:=aT2 hx;rw [h] at this;exact nomatch this
  ·rename_i hx
   have:=aSa.1 hx o b1;simpa using this
end
section
def xi (W:ag) (k:Nat):List (Int×Int):=(W.ak.take k).map λ t=>(t.id,t.owner)
theorem azB {W:ag} {k:Nat} (h:k<W.ak.length):xi W (k+1)=xi W k++ [((W.ak.getD k default).id,(W.ak.getD k default).owner)]:=by
 unfold xi;rw [CM (d:=default) h,aRc];rfl
theorem azD {W:ag} (bC:Good W) {k:Nat} (h:k<W.ak.length):cJ (xi W k) (W.ak.getD k default).id=none:=by
 unfold cJ xi;rw [List.find?_map,aVr,aVr,aSa];intro x hx;obtain ⟨i,ar,e⟩:=aRM.1 hx;rw [aQP] at ar;rw [List.getElem_take] at e;have:=(aRF.1 bC.E3) i k (by omega) h (by omega);rw [← e,mW h];have γ:=this.1;simp only [Function.comp_apply,aRK];omega
def may (W:ag) (o:aN):Bool:=if o.kind=5 then decide (o.by_<(W.aU.length:Int)) && (o.by_ == o.by_) else (cJ (xi W W.ak.length) o.aS).isSome && ((cJ (xi W W.ak.length) o.aS).getD 0 == o.by_)
def dO (W:ag) (l:List aN) (k:Nat):List dh:=(l.take k).flatMap λ o=>if may W o=true then ni o else []
theorem X6 {W:ag} {l:List aN} {k:Nat} (h:k<l.length) (hm:may W (l.getD k default)=true):dO W l (k+1)=dO W l k++ni (l.getD k default):=by
 unfold dO;rw [CM (d:=default) h,aR8,aSl,aSX,aRn,aQZ hm]
theorem X5 {W:ag} {l:List aN} {k:Nat} (h:k<l.length) (hm:may W (l.getD k default)=false):dO W l (k+1)=dO W l k:=by
 unfold dO;rw [CM (d:=default) h,aR8,aSl,aSX,aRn,aQV (by rw [hm];decide),aRn]
theorem aka (W:ag) (l:List aN):∀ k,(dO W l k).length≤k
 | 0=>by simp [dO]
 | k+1=>by
  have bt:=aka W l k;by_cases h:k<l.length
  ·cases hm:may W (l.getD k default) with
   | true=>rw [X6 h hm,aQU];have:(ni (l.getD k default)).length≤1:=(by unfold ni;(repeat' split)<;>simp);omega
   | false=>rw [X5 h hm];omega
  ·have:dO W l (k+1)=dO W l k:=by unfold dO;rw [aRb (by omega),aRb (by omega)]
   rw [this];omega
def ei (W:ag) (l:List aN) (k:Nat):List dj:=(l.take k).flatMap λ o=>if may W o=true then nk o else []
theorem X_ {W:ag} {l:List aN} {k:Nat} (h:k<l.length) (hm:may W (l.getD k default)=true):ei W l (k+1)=ei W l k++nk (l.getD k default):=by
 unfold ei;rw [CM (d:=default) h,aR8,aSl,aSX,aRn,aQZ hm]
theorem X9 {W:ag} {l:List aN} {k:Nat} (h:k<l.length) (hm:may W (l.getD k default)=false):ei W l (k+1)=ei W l k:=by
 unfold ei;rw [CM (d:=default) h,aR8,aSl,aSX,aRn,aQV (by rw [hm];decide),aRn]
theorem akc (W:ag) (l:List aN):∀ k,(ei W l k).length≤k
 | 0=>by simp [ei]
 | k+1=>by
  have bt:=akc W l k;by_cases h:k<l.length
  ·cases hm:may W (l.getD k default) with
   | true=>rw [X_ h hm,aQU];have:(nk (l.getD k default)).length≤1:=(by unfold nk;(repeat' split)<;>simp);omega
   | false=>rw [X9 h hm];omega
  ·have:ei W l (k+1)=ei W l k:=by unfold ei;rw [aRb (by omega),aRb (by omega)]
   rw [this];omega
def eR (W:ag) (l:List aN) (k:Nat):List ch:=(l.take k).flatMap λ o=>if may W o=true then nj o else []
theorem X8 {W:ag} {l:List aN} {k:Nat} (h:k<l.length) (hm:may W (l.getD k default)=true):eR W l (k+1)=eR W l k++nj (l.getD k default):=by
 unfold eR;rw [CM (d:=default) h,aR8,aSl,aSX,aRn,aQZ hm]
theorem X7 {W:ag} {l:List aN} {k:Nat} (h:k<l.length) (hm:may W (l.getD k default)=false):eR W l (k+1)=eR W l k:=by
 unfold eR;rw [CM (d:=default) h,aR8,aSl,aSX,aRn,aQV (by rw [hm];decide),aRn]
theorem akb (W:ag) (l:List aN):∀ k,(eR W l k).length≤k
 | 0=>by simp [eR]
 | k+1=>by
  have bt:=akb W l k;by_cases h:k<l.length
  ·cases hm:may W (l.getD k default) with
   | true=>rw [X8 h hm,aQU];have:(nj (l.getD k default)).length≤1:=(by unfold nj;(repeat' split)<;>simp);omega
   | false=>rw [X7 h hm];omega
  ·have:eR W l (k+1)=eR W l k:=by unfold eR;rw [aRb (by omega),aRb (by omega)]
   rw [this];omega
theorem akd (W:ag) (l:List aN) (k:Nat):(dO W l k).length≤k∧(ei W l k).length≤k∧(eR W l k).length≤k:=⟨aka W l k,akc W l k,akb W l k⟩
theorem ake (A:Option Addr) (c:Nat) (l:List aN) (qV:ag.cc) (W:ag) (w:World) (az:aN.rep.aI 48 w A c l) (bP:ag.Has w qV W):
  Calls prog 60 #[.slice A l.length c, .agg ((ag.cells qV W).toArray)] w (λ e w'=>∃ gO bW cg c1 cW c2,((hi l≠0∧e= .returned (.tuple #[.slice none 0 0, .slice none 0 0, .slice none 0 0, .int .i64 (hi l)]))∨(hi l=0∧W.bn≠0∧e= .returned (.tuple #[.slice none 0 0, .slice none 0 0, .slice none 0 0, .int .i64 W.bn]))∨(hi l=0∧W.bn=0∧e= .returned (.tuple #[.slice gO (dO W l l.length).length bW, .slice cg (ei W l l.length).length c1, .slice cW (eR W l l.length).length c2, .int .i64 0])∧dh.rep.aG 223 16 w' w.heap.size (τ.ae gO) gO bW (dO W l l.length)∧dj.rep.aG 225 24 w' w.heap.size (τ.ae cg) cg c1 (ei W l l.length)∧ch.rep.aG 178 40 w' w.heap.size (τ.ae cW) cW c2 (eR W l l.length)))∧Ext w w'):=by
 have pD:=az.d_;refine cd (n:=82) func60 Z Z Z ?_;refine aj<|cB Z Z Z Z λ cO bJ ba eb aa=> ?_;have:=ba.size;have bk:=κ (Ext.bI w) ba;have eh:=aa.lt;refine va Z<|va Z<|va Z<|va Z<|ai<|aB<|aj<|vm Z<|ca TW Z Z ((Xc _ _ l _ (az.keep bk)).mono ?_);rintro e eA ⟨rfl,cF⟩;refine ⟨_,Z, ?_⟩;have:=cF.size;have bO:=κ bk cF;refine va Z<|ai<|aj<|vm Z<|J (bne Z Z)<|ai<| ?_;refine eH Z (λ ks=> ?_) (λ ks=> ?_)
 ·refine aj<|vm Z<|va Z<|va Z<|va Z<|va Z<|ai<|rt<|bN<|bb (.tmp Z (.tmp Z (.tmp Z (.tmp Z .nil))))<| ?_;exact ⟨none,0,none,0,none,0, .inl ⟨ks,Z⟩,bO⟩
 ·obtain ⟨avi,_⟩:=LW (by simpa using ks);refine bs<|aB<|aj<| ?_;have aa:=aa.later cF;refine J (ao Z (aa.all c7 b3))<|ca Gw Z Z ((BD qV W _ (bP.keep bO)).mono ?_);rintro e CY ⟨rfl,dm⟩;refine ⟨_,Z, ?_⟩;have:=dm.size;have n7:=κ bO dm;refine va Z<|ai<|aj<|vm Z<|J (bne Z Z)<|ai<| ?_;refine eH Z (λ ib=> ?_) (λ ib=> ?_)
  ·refine aj<|vm Z<|va Z<|va Z<|va Z<|va Z<|ai<|rt<|bN<|bb (.tmp Z (.tmp Z (.tmp Z (.tmp Z .nil))))<| ?_;exact ⟨none,0,none,0,none,0, .inr (.inl ⟨by simpa using ks,ib,rfl⟩),n7⟩
  ·have bC:=Good.vy (by simpa using ib);have Cf:=bC.eg;have PO:=bC.jU;refine bs<|aj<|W_ Z λ xw rF lM axA aal=> ?_;have:=lM.size;have kj:=κ n7 lM;have ajl:=aal.lt;refine va Z<|ai<|aB<|aj<|J (au jL Z)<| ?_;have aa:=aa.later (κ dm lM);refine J (ao Z (aa.one lr Z))<|J (cu underlying26 Z)<|vm Z<|ai<|bR<| ?_;refine fg (λ cm cl a6=>∃ k:Nat,cl= [(0, .slice A l.length c),(3, .pointer (some ⟨bJ,0,none⟩)),(4, .slice none 0 0),(5, .slice none 0 0),(6, .slice none 0 0),(7, .int .i64 0),(10, .map (some rF)),(30, .slice qV.T W.ak.length qV.t),(31, .int .i64 (W.ak.length:Int)),(32, .int .i64 (k:Int))]∧cm=W.ak.length - k∧Ext w a6∧aQ a6 bJ (ag.cells qV W) 28 (0,0)∧o5 a6 rF (xi W k)∧(k≤W.ak.length)) _ _ ⟨0,Z,Z,kj,aa,aal,by omega⟩ (.cons Z (.cons Z (.cons Z (.cons Z (.cons Z (.cons Z (.cons Z (.cons Z (.cons Z (.cons (b2 Z (by first | omega | rfl | (simp<;>omega))) .nil)))))))))) ?_;rintro k8 aF1 CZ ⟨k,rfl,rfl,ll,aa,gG,av⟩;have:=ll.size;have aAx:=aa.lt;have LZ:=gG.lt;refine aj<|J (blt Z Z)<|ai<|aB<| ?_;refine ef Z (λ aub=> ?_) (λ aub=> ?_)
   ·refine bs<|aB<|bR<|aj<|J (b5 k underlying26 j3 Z Z ((bP.T.keep ll).bL (a7 k)) Z (by omega))<|J (ao Z (τ.aI.hE jf ((bP.T.keep ll).cA (a7 k)) (df (l:=W.ak) (u:=default) (by omega)) ym j3))<|al Z JP Z Z λ AS abm c_ ahX vY=> ?_;have:=c_.size;have oS:=κ ll c_;have aAA:=vY.lt;refine st (new:= [.int .i64 ((W.ak.getD k default).id), .int .i64 ((W.ak.getD k default).owner), .int .i64 ((W.ak.getD k default).kind), .int .i64 ((W.ak.getD k default).spot.x), .int .i64 ((W.ak.getD k default).spot.y), .int .i64 ((W.ak.getD k default).cY), .int .i64 ((W.ak.getD k default).load)]) Z Z vY Z j3 Z Z Z λ AT tV vY=> ?_;have:=tV.size;have kF:=Ext.mod oS tV bw;refine ai<|rg<|vm Z<|J (au Gx Z)<|J (ao Z (vY.one bd Z))<|J (au D_ Z)<|J (ao Z (vY.one bd Z))<| ?_;have gG:=gG.later c_;have gG:=gG.mod tV aR;refine mu underlying167 underlying3 gG (azD bC (by omega)) Z Z Z λ Mr oF gG=> ?_;have:=oF.size;have qE:=Ext.mod kF oF bw;refine nl<|bX<|aV<|rg<|J (bad Z Z (bG (by omega)))<|vm Z<|nl<| ?_;have a_:xi W (k+1)=xi W k++ [((W.ak.getD k default).id,(W.ak.getD k default).owner)]:=azB (by omega);have aa:=aa.later c_;have aa:=aa.mod tV aR;have aa:=aa.mod oF aR;exact c' _ _ ⟨k+1,Z,Z,qE,aa,(by rw [a_];exact gG),by omega⟩ (by omega) (.cons Z (.cons Z (.cons Z (.cons Z (.cons Z (.cons Z (.cons Z (.cons Z (.cons Z (.cons (b2 Z (by first | omega | rfl | (simp<;>omega))) .nil))))))))))
   ·refine dN<|dL<|ed<|dK<|aV<|aj<|al Z ari Z Z λ H_ s_ pZ aLA ZP=> ?_;have:=pZ.size;have uD:=κ ll pZ;have aN4:=ZP.lt;refine ai<|aB<|aj<|vm Z<|J (cu underlying44 Z)<|vm Z<|ai<|bR<| ?_;have lu:k=W.ak.length:=by omega
    subst lu;have aa:=aa.later pZ;have gG:=gG.later pZ;refine fg (λ cm cl a6=>∃ j:Nat,∃ gO:Option Addr,∃ bW:Nat,∃ cg:Option Addr,∃ c1:Nat,∃ cW:Option Addr,∃ c2:Nat,cl= [(3, .pointer (some ⟨bJ,0,none⟩)),(4, .slice none 0 0),(5, .slice none 0 0),(6, .slice none 0 0),(7, .int .i64 0),(10, .map (some rF)),(13, .pointer (some ⟨s_,0,none⟩)),(42, .slice A l.length c),(43, .int .i64 (l.length:Int)),(44, .int .i64 (j:Int))]∧cm=l.length - j∧Ext w a6∧aQ a6 bJ (ag.cells qV W) 28 (0,0)∧o5 a6 rF (xi W W.ak.length)∧aQ a6 s_ [.slice gO ((dO W l j).length) bW, .slice cg ((ei W l j).length) c1, .slice cW ((eR W l j).length) c2] 169 (0,0)∧dh.rep.aG 223 16 a6 w.heap.size (τ.ae gO) gO bW (dO W l j)∧dj.rep.aG 225 24 a6 w.heap.size (τ.ae cg) cg c1 (ei W l j)∧ch.rep.aG 178 40 a6 w.heap.size (τ.ae cW) cW c2 (eR W l j)∧(j≤l.length)∧(∀ q∈τ.ae gO,q=bJ→False)∧(∀ q∈τ.ae gO,q=rF→False)∧(∀ q∈τ.ae gO,q=s_→False)∧(∀ q∈τ.ae cg,q=bJ→False)∧(∀ q∈τ.ae cg,q=rF→False)∧(∀ q∈τ.ae cg,q=s_→False)∧(∀ q∈τ.ae cg,q∈τ.ae gO→False)∧(∀ q∈τ.ae cW,q=bJ→False)∧(∀ q∈τ.ae cW,q=rF→False)∧(∀ q∈τ.ae cW,q=s_→False)∧(∀ q∈τ.ae cW,q∈τ.ae gO→False)∧(∀ q∈τ.ae cW,q∈τ.ae cg→False)) _ _ ⟨0,none,0,none,0,none,0,Z,Z,uD,aa,gG,ZP,(τ.aG.nil _),(τ.aG.nil _),(τ.aG.nil _),by omega,(λ q I Φ=>by (simp [τ.ae] at I)),(λ q I Φ=>by (simp [τ.ae] at I)),(λ q I Φ=>by (simp [τ.ae] at I)),(λ q I Φ=>by (simp [τ.ae] at I)),(λ q I Φ=>by (simp [τ.ae] at I)),(λ q I Φ=>by (simp [τ.ae] at I)),(λ q I Φ=>by (simp [τ.ae] at I)),(λ q I Φ=>by (simp [τ.ae] at I)),(λ q I Φ=>by (simp [τ.ae] at I)),(λ q I Φ=>by (simp [τ.ae] at I)),(λ q I Φ=>by (simp [τ.ae] at I)),(λ q I Φ=>by (simp [τ.ae] at I))⟩ (.cons Z (.cons Z (.cons Z (.cons Z (.cons Z (.cons Z (.cons Z (.cons Z (.cons Z (.cons (b2 Z (by first | omega | rfl | (simp<;>omega))) .nil)))))))))) ?_;rintro nd aGd RB ⟨j,gO,bW,cg,c1,cW,c2,rfl,rfl,rT,aa,gG,bo,i',ja,jb,ay,Gn,Gp,zS,wH,mU,q1,tu,nH,nI,BJ,zT,Ov⟩;have:=rT.size;have ajo:=aa.lt;have QM:=gG.lt;have ajp:=bo.lt;have Rn:=λ q I=>(i'.lt q I).2;have sF:=λ q I=>(ja.lt q I).2;have y7:=λ q I=>(jb.lt q I).2;have sg:=akd W l j;refine aj<|J (blt Z Z)<|ai<|aB<| ?_;refine ef Z (λ Vm=> ?_) (λ Vm=> ?_)
    ·have Al:=aN.oh az _ (jj (d:=default) (show j<l.length by omega));refine bs<|aB<|bR<|aj<|J (b5 j underlying44 fF Z Z ((az.keep rT).bL (a7 j)) Z (by omega))<|J (ao Z (τ.aI.hE Kp ((az.keep rT).cA (a7 j)) (df (l:=l) (u:=default) (by omega)) jc fF))<|al Z OG Z Z λ Fp aoi ik axH ny=> ?_;have:=ik.size;have xN:=κ rT ik;have aAL:=ny.lt;refine st (new:= [.int .i64 ((l.getD j default).by_), .int .i64 ((l.getD j default).kind), .int .i64 ((l.getD j default).aS), .int .i64 ((l.getD j default).spot.x), .int .i64 ((l.getD j default).spot.y), .int .i64 ((l.getD j default).what)]) Z Z ny Z fF Z Z Z λ aDU ig ny=> ?_;have:=ig.size;have Iv:=Ext.mod xN ig bw;refine ai<|aj<|vm Z<|J (au BK Z)<|J (ao Z (ny.one bd Z))<| ?_;have gG:=gG.later ik;have gG:=gG.mod ig aR;refine J (lk underlying167 underlying3 OR gG Z Z)<|vm Z<|J (ex Z Z)<|J (ex Z Z)<|va Z<|va Z<|ai<|aB<|aj<|J (au ph Z)<|J (ao Z (ny.one bd Z))<|J (beq Z Z)<|ai<| ?_;refine jI Z (λ yz=> ?_) (λ yz=> ?_)
     ·refine rd [(1,0),(3,0),(5,0)] [0,1,2,3,4,5,6,7,8,9] (by kernel_rfl) (by kernel_rfl) ?_;refine aq Z (λ _=>au tx Z)<|bE Z (λ _ x=>ao Z ((ny.later x).one bd Z))<|aq Z (λ _=>au tx Z)<|bE Z (λ _ x=>ao Z ((ny.later x).one bd Z))<|aq Z (λ _=>au qd Z)<| ?_;have aa:=aa.later ik;have aa:=aa.mod ig aR;refine bE Z (λ _ x=>ao Z ((aa.later x).one tA Z))<|aq Z (λ _=>cu underlying25 Z)<|aq Z (λ _=>blt Z Z)<|aq Z (λ _=>eY Z)<|aq Z (λ _=>eY Z)<|fn λ Ig dV=> ?_;have:=dV.size;have kH:=κ Iv dV;refine aV<|aj<|vm Z<|vm Z<|aO Z Z Z Z (λ hc=>aH Z) Z<|aO Z Z Z Z (λ hc=>au tx Z) Z<| ?_;have ny:=ny.later dV;refine aO Z Z Z Z (λ hc=>ao (gt hc Z) (ny.one bd Z)) Z<|aO Z Z Z Z (λ hc=>beq (gt hc Z) (gt hc Z)) Z<|J (di Z Z Z Z)<|ai<| ?_;refine dT Z (λ Ei=> ?_) (λ Ei=> ?_)
      ·have rq:may W (l.getD j default)=true:=by unfold may;rw [aQZ yz];rw [← Ei]
       refine rg<|J (ao Z (ny.all jc fF))<| ?_;have bo:=bo.later ik;have bo:=bo.mod ig aR;have bo:=bo.later dV;have i':=i'.later ik;have i':=i'.mod ig (b0 Rn);have i':=i'.later dV;have ja:=ja.later ik;have ja:=ja.mod ig (b0 sF);have ja:=ja.later dV;have jb:=jb.later ik;have jb:=jb.mod ig (b0 y7);have jb:=jb.later dV;have atz:∀ q∈(s_::(τ.ae gO++(τ.ae cg++τ.ae cW))),w.heap.size≤q:=by
        intro q I;simp only [aQ7,aQ0] at I;rcases I with I | I | I | I
        ·omega
        ·exact (i'.lt q I).1
        ·exact (ja.lt q I).1
        ·exact (jb.lt q I).1
       refine ca adm Z Z ((abb (l.getD j default) w s_ _ _ _ _ _ _ _ _ _ _ kH Al bo i' ja jb (λ q I Φ=>by (exact zS q I Φ)) (λ q I Φ=>by (exact q1 q I Φ)) (λ q I Φ=>by (exact BJ q I Φ)) (λ q I Φ=>by (exact tu q I Φ)) (λ q I Φ=>by (exact zT q I Φ)) (λ q I Φ=>by (exact Ov q I Φ)) (by omega) (by omega) (by omega)).mono ?_);rintro e YH ⟨amf,ao8,amg,ao9,amh,apa,rfl,Nf,aaU,aaV,aaW,aqM,aqN,aqO,aqD,aqE,aqF,aef,aeg,aeh,tX⟩;refine ⟨_,Z, ?_⟩;have:=tX.size;have FN:=Ext.mod kH tX atz;have akP:=λ q I=>(aaU.lt q I).2;have aC0:=λ q I=>(aaV.lt q I).2;have aPz:=λ q I=>(aaW.lt q I).2;refine nl<|bX<|aV<|rg<|J (bad Z Z (bG (by omega)))<|vm Z<|nl<| ?_;have bh:dO W l (j+1)=dO W l j++ni (l.getD j default):=X6 (by omega) rq;have cD:ei W l (j+1)=ei W l j++nk (l.getD j default):=X_ (by omega) rq;have jr:eR W l (j+1)=eR W l j++nj (l.getD j default):=X8 (by omega) rq;have aa:=aa.later dV;have ay4:bJ∉(s_::(τ.ae gO++(τ.ae cg++τ.ae cW))):=by
        intro I;simp only [aQ7,aQ0] at I;rcases I with I | I | I | I
        ·omega
        ·exact (λ q (γ:q∈τ.ae gO) (ab:q=bJ)=>show False by (exact Gn q γ ab)) _ I Z
        ·exact (λ q (γ:q∈τ.ae cg) (ab:q=bJ)=>show False by (exact wH q γ ab)) _ I Z
        ·exact (λ q (γ:q∈τ.ae cW) (ab:q=bJ)=>show False by (exact nH q γ ab)) _ I Z
       have aa:=aa.mod tX ay4;have gG:=gG.later dV;have ay5:rF∉(s_::(τ.ae gO++(τ.ae cg++τ.ae cW))):=by
        intro I;simp only [aQ7,aQ0] at I;rcases I with I | I | I | I
        ·omega
        ·exact (λ q (γ:q∈τ.ae gO) (ab:q=rF)=>show False by (exact Gp q γ ab)) _ I Z
        ·exact (λ q (γ:q∈τ.ae cg) (ab:q=rF)=>show False by (exact mU q γ ab)) _ I Z
        ·exact (λ q (γ:q∈τ.ae cW) (ab:q=rF)=>show False by (exact nI q γ ab)) _ I Z
       have gG:=gG.mod tX ay5;exact c' _ _ ⟨j+1,amf,ao8,amg,ao9,amh,apa,Z,Z,FN,aa,gG,(by rw [bh,cD,jr];exact Nf),(by rw [bh];exact aaU),(by rw [cD];exact aaV),(by rw [jr];exact aaW),by omega,(λ q I Φ=>by (exact aQ2 (aef q I) (λ K6=>by (exact Gn q K6 Φ)) (λ K6=>by omega))),(λ q I Φ=>by (exact aQ2 (aef q I) (λ K7=>by (exact Gp q K7 Φ)) (λ K7=>by omega))),(λ q I Φ=>by (exact aqM q I Φ)),(λ q I Φ=>by (exact aQ2 (aeg q I) (λ Cm=>by (exact wH q Cm Φ)) (λ Cm=>by omega))),(λ q I Φ=>by (exact aQ2 (aeg q I) (λ K8=>by (exact mU q K8 Φ)) (λ K8=>by omega))),(λ q I Φ=>by (exact aqN q I Φ)),(λ q I Φ=>by (exact aqD q I Φ)),(λ q I Φ=>by (exact aQ2 (aeh q I) (λ K9=>by (exact nH q K9 Φ)) (λ K9=>by omega))),(λ q I Φ=>by (exact aQ2 (aeh q I) (λ K_=>by (exact nI q K_ Φ)) (λ K_=>by omega))),(λ q I Φ=>by (exact aqO q I Φ)),(λ q I Φ=>by (exact aqE q I Φ)),(λ q I Φ=>by (exact aqF q I Φ))⟩ (by omega) (.cons Z (.cons Z (.cons Z (.cons Z (.cons Z (.cons Z (.cons Z (.cons Z (.cons Z (.cons (b2 Z (by first | omega | rfl | (simp<;>omega))) .nil))))))))))
      ·have rq:may W (l.getD j default)=false:=by unfold may;rw [aQZ yz];rw [← Ei]
       refine e6<|bX<|aV<|rg<|J (bad Z Z (bG (by omega)))<|vm Z<|nl<| ?_;have bh:dO W l (j+1)=dO W l j:=X5 (by omega) rq;have cD:ei W l (j+1)=ei W l j:=X9 (by omega) rq;have jr:eR W l (j+1)=eR W l j:=X7 (by omega) rq;have aa:=aa.later dV;have gG:=gG.later dV;have bo:=bo.later ik;have bo:=bo.mod ig aR;have bo:=bo.later dV;have i':=i'.later ik;have i':=i'.mod ig (b0 Rn);have i':=i'.later dV;have ja:=ja.later ik;have ja:=ja.mod ig (b0 sF);have ja:=ja.later dV;have jb:=jb.later ik;have jb:=jb.mod ig (b0 y7);have jb:=jb.later dV;exact c' _ _ ⟨j+1,gO,bW,cg,c1,cW,c2,Z,Z,kH,aa,gG,(by rw [bh,cD,jr];exact bo),(by rw [bh];exact i'),(by rw [cD];exact ja),(by rw [jr];exact jb),by omega,(λ q I Φ=>by (exact Gn q I Φ)),(λ q I Φ=>by (exact Gp q I Φ)),(λ q I Φ=>by (exact zS q I Φ)),(λ q I Φ=>by (exact wH q I Φ)),(λ q I Φ=>by (exact mU q I Φ)),(λ q I Φ=>by (exact q1 q I Φ)),(λ q I Φ=>by (exact tu q I Φ)),(λ q I Φ=>by (exact nH q I Φ)),(λ q I Φ=>by (exact nI q I Φ)),(λ q I Φ=>by (exact BJ q I Φ)),(λ q I Φ=>by (exact zT q I Φ)),(λ q I Φ=>by (exact Ov q I Φ))⟩ (by omega) (.cons Z (.cons Z (.cons Z (.cons Z (.cons Z (.cons Z (.cons Z (.cons Z (.cons Z (.cons (b2 Z (by first | omega | rfl | (simp<;>omega))) .nil))))))))))
     ·refine bs<|aj<|vm Z<|vm Z<|aO Z Z Z Z (λ hc=>aH Z) Z<|aO Z Z Z Z (λ hc=>au tx Z) Z<|aO Z Z Z Z (λ hc=>ao (gt hc Z) (ny.one bd Z)) Z<|aO Z Z Z Z (λ hc=>beq (gt hc Z) (gt hc Z)) Z<|J (di Z Z Z Z)<|ai<| ?_;refine dT Z (λ Eh=> ?_) (λ Eh=> ?_)
      ·have rq:may W (l.getD j default)=true:=by unfold may;rw [aQV yz];rw [← Eh]
       refine rg<|J (ao Z (ny.all jc fF))<| ?_;have bo:=bo.later ik;have bo:=bo.mod ig aR;have i':=i'.later ik;have i':=i'.mod ig (b0 Rn);have ja:=ja.later ik;have ja:=ja.mod ig (b0 sF);have jb:=jb.later ik;have jb:=jb.mod ig (b0 y7);have aty:∀ q∈(s_::(τ.ae gO++(τ.ae cg++τ.ae cW))),w.heap.size≤q:=by
        intro q I;simp only [aQ7,aQ0] at I;rcases I with I | I | I | I
        ·omega
        ·exact (i'.lt q I).1
        ·exact (ja.lt q I).1
        ·exact (jb.lt q I).1
       refine ca adm Z Z ((abb (l.getD j default) w s_ _ _ _ _ _ _ _ _ _ _ Iv Al bo i' ja jb (λ q I Φ=>by (exact zS q I Φ)) (λ q I Φ=>by (exact q1 q I Φ)) (λ q I Φ=>by (exact BJ q I Φ)) (λ q I Φ=>by (exact tu q I Φ)) (λ q I Φ=>by (exact zT q I Φ)) (λ q I Φ=>by (exact Ov q I Φ)) (by omega) (by omega) (by omega)).mono ?_);rintro e Fg ⟨alV,aoP,alW,aoQ,alX,aoR,rfl,A_,aaA,aaB,aaC,aqJ,aqK,aqL,aqA,aqB,aqC,ad8,ad9,aea,tQ⟩;refine ⟨_,Z, ?_⟩;have:=tQ.size;have MJ:=Ext.mod Iv tQ aty;have aCN:=λ q I=>(aaA.lt q I).2;have aO1:=λ q I=>(aaB.lt q I).2;have aO2:=λ q I=>(aaC.lt q I).2;refine nl<|bX<|aV<|rg<|J (bad Z Z (bG (by omega)))<|vm Z<|nl<| ?_;have bh:dO W l (j+1)=dO W l j++ni (l.getD j default):=X6 (by omega) rq;have cD:ei W l (j+1)=ei W l j++nk (l.getD j default):=X_ (by omega) rq;have jr:eR W l (j+1)=eR W l j++nj (l.getD j default):=X8 (by omega) rq;have aa:=aa.later ik;have aa:=aa.mod ig aR;have ay2:bJ∉(s_::(τ.ae gO++(τ.ae cg++τ.ae cW))):=by
        intro I;simp only [aQ7,aQ0] at I;rcases I with I | I | I | I
        ·omega
        ·exact (λ q (γ:q∈τ.ae gO) (ab:q=bJ)=>show False by (exact Gn q γ ab)) _ I Z
        ·exact (λ q (γ:q∈τ.ae cg) (ab:q=bJ)=>show False by (exact wH q γ ab)) _ I Z
        ·exact (λ q (γ:q∈τ.ae cW) (ab:q=bJ)=>show False by (exact nH q γ ab)) _ I Z
       have aa:=aa.mod tQ ay2;have ay3:rF∉(s_::(τ.ae gO++(τ.ae cg++τ.ae cW))):=by
        intro I;simp only [aQ7,aQ0] at I;rcases I with I | I | I | I
        ·omega
        ·exact (λ q (γ:q∈τ.ae gO) (ab:q=rF)=>show False by (exact Gp q γ ab)) _ I Z
        ·exact (λ q (γ:q∈τ.ae cg) (ab:q=rF)=>show False by (exact mU q γ ab)) _ I Z
        ·exact (λ q (γ:q∈τ.ae cW) (ab:q=rF)=>show False by (exact nI q γ ab)) _ I Z
       have gG:=gG.mod tQ ay3;exact c' _ _ ⟨j+1,alV,aoP,alW,aoQ,alX,aoR,Z,Z,MJ,aa,gG,(by rw [bh,cD,jr];exact A_),(by rw [bh];exact aaA),(by rw [cD];exact aaB),(by rw [jr];exact aaC),by omega,(λ q I Φ=>by (exact aQ2 (ad8 q I) (λ agz=>by (exact Gn q agz Φ)) (λ agz=>by omega))),(λ q I Φ=>by (exact aQ2 (ad8 q I) (λ agA=>by (exact Gp q agA Φ)) (λ agA=>by omega))),(λ q I Φ=>by (exact aqJ q I Φ)),(λ q I Φ=>by (exact aQ2 (ad9 q I) (λ Cn=>by (exact wH q Cn Φ)) (λ Cn=>by omega))),(λ q I Φ=>by (exact aQ2 (ad9 q I) (λ K'=>by (exact mU q K' Φ)) (λ K'=>by omega))),(λ q I Φ=>by (exact aqK q I Φ)),(λ q I Φ=>by (exact aqA q I Φ)),(λ q I Φ=>by (exact aQ2 (aea q I) (λ La=>by (exact nH q La Φ)) (λ La=>by omega))),(λ q I Φ=>by (exact aQ2 (aea q I) (λ Lb=>by (exact nI q Lb Φ)) (λ Lb=>by omega))),(λ q I Φ=>by (exact aqL q I Φ)),(λ q I Φ=>by (exact aqB q I Φ)),(λ q I Φ=>by (exact aqC q I Φ))⟩ (by omega) (.cons Z (.cons Z (.cons Z (.cons Z (.cons Z (.cons Z (.cons Z (.cons Z (.cons Z (.cons (b2 Z (by first | omega | rfl | (simp<;>omega))) .nil))))))))))
      ·have rq:may W (l.getD j default)=false:=by unfold may;rw [aQV yz];rw [← Eh]
       refine e6<|bX<|aV<|rg<|J (bad Z Z (bG (by omega)))<|vm Z<|nl<| ?_;have bh:dO W l (j+1)=dO W l j:=X5 (by omega) rq;have cD:ei W l (j+1)=ei W l j:=X9 (by omega) rq;have jr:eR W l (j+1)=eR W l j:=X7 (by omega) rq;have aa:=aa.later ik;have aa:=aa.mod ig aR;have bo:=bo.later ik;have bo:=bo.mod ig aR;have i':=i'.later ik;have i':=i'.mod ig (b0 Rn);have ja:=ja.later ik;have ja:=ja.mod ig (b0 sF);have jb:=jb.later ik;have jb:=jb.mod ig (b0 y7);exact c' _ _ ⟨j+1,gO,bW,cg,c1,cW,c2,Z,Z,Iv,aa,gG,(by rw [bh,cD,jr];exact bo),(by rw [bh];exact i'),(by rw [cD];exact ja),(by rw [jr];exact jb),by omega,(λ q I Φ=>by (exact Gn q I Φ)),(λ q I Φ=>by (exact Gp q I Φ)),(λ q I Φ=>by (exact zS q I Φ)),(λ q I Φ=>by (exact wH q I Φ)),(λ q I Φ=>by (exact mU q I Φ)),(λ q I Φ=>by (exact q1 q I Φ)),(λ q I Φ=>by (exact tu q I Φ)),(λ q I Φ=>by (exact nH q I Φ)),(λ q I Φ=>by (exact nI q I Φ)),(λ q I Φ=>by (exact BJ q I Φ)),(λ q I Φ=>by (exact zT q I Φ)),(λ q I Φ=>by (exact Ov q I Φ))⟩ (by omega) (.cons Z (.cons Z (.cons Z (.cons Z (.cons Z (.cons Z (.cons Z (.cons Z (.cons Z (.cons (b2 Z (by first | omega | rfl | (simp<;>omega))) .nil))))))))))
    ·refine dN<|dL<|ed<|dK<|aV<|aB<| ?_;refine rd [(1,0),(3,0),(5,0)] [0,1,2,3,4,5,6,7,8,9] (by kernel_rfl) (by kernel_rfl) ?_;refine aq Z (λ _=>au TT Z)<|bE Z (λ _ x=>ao Z ((bo.later x).one adj Z))<|aq Z (λ _=>au TU Z)<|bE Z (λ _ x=>ao Z ((bo.later x).one adl Z))<|aq Z (λ _=>au D8 Z)<|bE Z (λ _ x=>ao Z ((bo.later x).one OH Z))<|aq Z (λ _=>eY Z)<|aq Z (λ _=>eY Z)<|aq Z (λ _=>eY Z)<|aq Z (λ _=>eY Z)<|fn λ aPN MG=> ?_;have:=MG.size;have aEG:=κ rT MG;refine aV<|rt<|bb (.tmp Z (.tmp Z (.tmp Z (.tmp Z .nil))))<| ?_;have i':=i'.later MG;have ja:=ja.later MG;have jb:=jb.later MG;have asz:j=l.length:=by omega
     subst asz;exact ⟨gO,bW,cg,c1,cW,c2, .inr (.inr ⟨by simpa using ks,by simpa using ib,rfl,i',ja,jb⟩),aEG⟩
end
section
def nX (W:ag) (l:List aN):Int:=if hi l≠0 then hi l else W.bn
theorem Q0 {W:ag} {l:List aN} (h:nX W l=0):hi l=0∧W.bn=0:=by
 unfold nX at h;split at h
 ·rename_i γ;exact absurd h γ
 ·rename_i γ;exact ⟨by simpa using γ,h⟩
theorem aBP {W:ag} {l:List aN} (h:nX W l=0):l.length≤100:=(LW (Q0 h).1).1
theorem aBQ (A:Option Addr) (c:Nat) (l:List aN) (qV:ag.cc) (W:ag) (w:World) (az:aN.rep.aI 48 w A c l) (bP:ag.Has w qV W) (h:nX W l≠0):Calls prog 60 #[.slice A l.length c, .agg (ag.cells qV W).toArray] w (λ e w'=>e= .returned (.tuple #[.slice none 0 0, .slice none 0 0, .slice none 0 0, .int .i64 (nX W l)])∧Ext w w'):=by
 refine (ake A c l qV W w az bP).mono λ e w' he=> ?_;obtain ⟨gO,bW,cg,c1,cW,c2,(⟨γ,ab⟩ | ⟨γ,ab,aw⟩ | ⟨γ,ab,_⟩),hx⟩:=he
 ·exact ⟨by rw [ab];unfold nX;rw [aQZ γ],hx⟩
 ·exact ⟨by rw [aw];unfold nX;rw [aQV (by simpa using γ)],hx⟩
 ·exact absurd (by unfold nX;rw [aQV (by simpa using γ)];exact ab) h
theorem akf (A:Option Addr) (c:Nat) (l:List aN) (qV:ag.cc) (W:ag) (w:World) (az:aN.rep.aI 48 w A c l) (bP:ag.Has w qV W) (h:nX W l=0):Calls prog 60 #[.slice A l.length c, .agg (ag.cells qV W).toArray] w (λ e w'=>∃ gO bW cg c1 cW c2,e= .returned (.tuple #[.slice gO (dO W l l.length).length bW, .slice cg (ei W l l.length).length c1, .slice cW (eR W l l.length).length c2, .int .i64 0])∧dh.rep.aG 223 16 w' w.heap.size (τ.ae gO) gO bW (dO W l l.length)∧dj.rep.aG 225 24 w' w.heap.size (τ.ae cg) cg c1 (ei W l l.length)∧ch.rep.aG 178 40 w' w.heap.size (τ.ae cW) cW c2 (eR W l l.length)∧Ext w w'):=by
 obtain ⟨cj,a2⟩:=Q0 h;refine (ake A c l qV W w az bP).mono λ e w' he=> ?_;obtain ⟨gO,bW,cg,c1,cW,c2,(⟨γ,ab⟩ | ⟨γ,ab,aw⟩ | ⟨γ,ab,aw,aX,bF,cb⟩),hx⟩:=he
 ·exact absurd cj γ
 ·exact absurd a2 ab
 ·exact ⟨gO,bW,cg,c1,cW,c2,aw,aX,bF,cb,hx⟩
end
section
section
variable {F:List Nat} {P:Program} {ops:Array Oper} {Q:Exit→Act→World→Prop} {aZ:Nat→Nat}
def uO (F:List Nat) (P:Program) (ops:Array Oper) (w0:World) (o:Oper) (v:Value) (a:Act):Prop :=
  (Region.wanted o (yielded ops a.tmps)=true∧∀ w,Mod F w0 w→yV P w v ((execOp a.eval o).run P w))∨
  (Region.wanted o (yielded ops a.tmps)=false∧v=undef)
theorem uO.of_same {w0:World} {o:Oper} {v:Value} {a a':Act} (h:uO F P ops w0 o v a) (he:execOp a'.eval o=execOp a.eval o) (hw:Region.wanted o (yielded ops a'.tmps)=Region.wanted o (yielded ops a.tmps)):uO F P ops w0 o v a':=by
  unfold uO at *;rw [he,hw];exact h
theorem uO.on {w0 aP:World} {o:Oper} {v:Value} {a:Act} (h:uO F P ops w0 o v a) (hx:Mod F w0 aP):uO F P ops aP o v a :=
  h.imp (λ ⟨γ,ab⟩=>⟨γ,λ w hw=>ab w (hx.trans hw)⟩) id
theorem Yields.aAN {w0:World} {o:Oper} {v:Value} {a:Act} (h:Yields P ops o v a):uO F P ops w0 o v a :=
  h.imp (λ ⟨γ,ab⟩=>⟨γ,λ w _=>by rw [ab w];exact ⟨rfl,rfl⟩⟩) id
def aB5 (F:List Nat) (P:Program) (ops:Array Oper) (Q:Exit→Act→World→Prop) (aZ:Nat→Nat) (i:Nat) (K:Act→World→Prop) (a:Act) (w0:World):Prop :=
  ∃ o,ops[i]? =some o∧
    ((aZ i≤1∧∃ v,uO F P ops w0 o v a∧K (a.put o.dst v) w0)∨
     (1<aZ i∧∀ w,Ext w0 w→wpOp P ops Q i (λ a' w'=>(aZ i=2→Mod F w0 w')∧K a' w') a w))
def Jl (F:List Nat) (P:Program) (ops:Array Oper) (Q:Exit→Act→World→Prop) (aZ:Nat→Nat):Nat→Array Bool→Act→World→Prop
  | 0,l,a,w0=>Region.ready .any ops l= []∧∀ w,Ext w0 w→Q .normal a w
  | f+1,l,a,w0=>(Region.ready .any ops l= []→∀ w,Ext w0 w→Q .normal a w)∧∀ i∈Region.ready .any ops l,aB5 F P ops Q aZ i (Jl F P ops Q aZ f (l.setIfInBounds i true)) a w0
theorem Gf:∀ (f:Nat) (l:Array Bool) (a:Act) (w0:World),Jl F P ops Q aZ f l a w0→∀ w,Ext w0 w→wpAny P .any ops Q f l a w
  | 0,_,_,_,h,w,hw=>⟨h.1,h.2 w hw⟩
  | f+1,l,a,w0,h,w,hw=>⟨λ aF=>h.1 aF w hw,λ i ar=>by
      obtain ⟨o,b1,ab⟩:=h.2 i ar;rcases ab with ⟨_,v,I,av⟩ | ⟨_,ab⟩
      · unfold wpOp
        simp only [b1];rcases I with ⟨mo,I⟩ | ⟨mo,rfl⟩
        · rw [aQZ mo]
          refine .inl ?_;have I:=I w (Mod.bD hw);unfold Oper.wp;generalize (execOp a.eval o).run P w=r at *
          cases r with
          | ok n w' =>
            cases n<;>simp only [yV] at I<;>simp only [Oper.upon]
            case value u=>obtain ⟨rfl,rfl⟩:=I;exact Gf f _ _ _ av _ hw
            case skip=>obtain ⟨rfl,rfl⟩:=I;exact Gf f _ _ _ av _ hw
            case enter f' args=>obtain ⟨rfl,hc⟩:=I;exact hc.mono λ e lg ⟨he,hx⟩=>by subst he;exact Gf f _ _ _ av _ (hw.t_ hx)
          | halt x w'=>simp only [yV] at I
        · rw [aQV (by rw [mo];decide)]
          exact Gf f _ _ _ av _ hw
      · exact aS4 (λ a' w' aw=>Gf f _ _ _ aw.2 _ (Ext.bI w')) (ab w hw)⟩
theorem adS {i:Nat} {dv:Oper} {v:Value} (ar:ops[i]? =some dv) (av:aZ i≤1) (mZ:∀ (j:Nat) (o:Oper) cs b,ops[j]? =some o→o.op≠ .select cs b)
    (h1:∀ c a w,¬ Q (.panic c) a w) (aC:World→Act→Prop) (kE:∀ w0 a,aC w0 a→uO F P ops w0 dv v a)
    (z2:∀ w0 a a',aC w0 a→execOp a'.eval dv=execOp a.eval dv→Region.wanted dv (yielded ops a'.tmps)=Region.wanted dv (yielded ops a.tmps)→aC w0 a')
    (z3:∀ w0 aP a,Mod F w0 aP→aC w0 a→aC aP a) (R:Nat→Bool) (w7:Array Bool)
    (hR:∀ j c9,ops[j]? =some c9→j≠i→(∀ e∈c9.after,Region.binds .any e=true→R e.on=true)→R j=true)
    (bc:(∀ w0 aP a,aC w0 a→aC aP a)∨∀ j,R j=true→3≤aZ j→w7.getD j true=true):
    ∀ (f:Nat) (l:Array Bool) (a:Act) (w0:World),(∀ j,l.getD j false=true→R j=true)→(∀ j,w7.getD j true=true→l.getD j true=true)→
      (∀ j c9,ops[j]? =some c9→j≠i→l.getD j true=false→(∀ e∈c9.after,Region.binds .any e=true→e.on≠i)→dv.apart ops c9=true)→
      i∈Region.ready .any ops l→aC w0 a→Jl F P ops Q aZ f (l.setIfInBounds i true) (a.put dv.dst v) w0→Jl F P ops Q aZ (f+1) l a w0:=by
  intro f;induction f with
  | zero =>
    intro l a w0 _ _ _ hr bB H;refine ⟨λ h=>(by rw [h] at hr;cases hr),λ j ay=> ?_⟩;by_cases hH:j=i
    · subst hH;exact ⟨dv,ar, .inl ⟨av,v,kE _ _ bB,H⟩⟩
    · have:=aTi ay hH
      rw [H.1] at this;cases this
  | succ f bt =>
    intro l a w0 B7 B5 B1 hr bB H;refine ⟨λ h=>(by rw [h] at hr;cases hr),λ j ay=> ?_⟩;by_cases hH:j=i
    · subst hH;exact ⟨dv,ar, .inl ⟨av,v,kE _ _ bB,H⟩⟩
    · obtain ⟨c9,ku,γ⟩:=H.2 j (aTi ay hH)
      obtain ⟨wX,gv,Cg,dE⟩:=aUt.1 ay;obtain rfl:gv=c9:=by rw [ku] at Cg;exact (aQL Cg).symm
      have KL:∀ e∈gv.after,Region.binds .any e=true→e.on≠i:=λ e he Φ heq=>by
        have γ:=dE e he Φ;have aF:=(aUt.1 hr).1;rw [heq] at γ;rcases aRG i l.size with c8 | c8
        · simp [c8] at aF γ;rw [aF] at γ;cases γ
        · simp [aRL c8] at γ
      have Kj:=B1 j gv ku hH wX KL;obtain ⟨cj,a2,a3⟩:=aVf Kj;have KX:∀ cs b,dv.op≠ .select cs b:=λ cs b=>mZ i dv cs b ar;have w4:∀ cs b,gv.op≠ .select cs b:=λ cs b=>mZ j gv cs b ku;have keep:∀ aP a u,aC aP a→aC aP (a.put gv.dst u):=λ aP a u bB=>z2 _ _ _ bB (aTt dv KX a gv.dst u a3) (aTI dv a gv.dst u a3);have BT:R j=true:=hR j gv ku hH λ e he Φ=>B7 _ (dE e he Φ);have B8:∀ k,(l.setIfInBounds j true).getD k false=true→R k=true:=λ k av=>by
        by_cases gK:j=k
        · rw [← gK];exact BT
        · rw [aSZ false gK] at av;exact B7 k av
      have B6:∀ k,w7.getD k true=true→(l.setIfInBounds j true).getD k true=true:=λ k av=>by
        by_cases gK:j=k
        · subst gK
          rcases aRG j l.size with c8 | c8
          · simp [c8]
          · simp [aRL c8]
        · rw [aSZ true gK];exact B5 k av
      have B2:∀ k ok,ops[k]? =some ok→k≠i→(l.setIfInBounds j true).getD k true=false→
          (∀ e∈ok.after,Region.binds .any e=true→e.on≠i)→dv.apart ops ok=true:=λ k ok av pB Cj kt=>by
        refine B1 k ok av pB ?_ kt;by_cases gK:j=k
        · subst gK;exact wX
        · rw [aSZ true gK] at Cj;exact Cj
      have Ci:=aTi hr (aTx hH);rcases γ with ⟨wY,u,I,hK⟩ | ⟨wY,γ⟩
      · refine ⟨gv,ku, .inl ⟨wY,u,I.of_same (aTt gv w4 a dv.dst v cj).symm (aTI gv a dv.dst v cj).symm, ?_⟩⟩
        refine bt _ _ _ B8 B6 B2 Ci (keep _ _ _ bB) ?_;rw [aSi _ _ hH,← aSQ a v u a2];exact hK
      · refine ⟨gv,ku, .inr ⟨wY,λ w hw=> ?_⟩⟩
        refine aS4 (λ a' w' aw=>⟨aw.2.1, ?_⟩) (YN (aC:=aC w0) ku cj a2 w4 h1 (keep w0) (λ a d bB=>z2 _ _ _ bB Z Z) bB (γ w hw));have K2:aC w' a':=by
          rcases aRG (aZ j) 3 with bA | qj
          · exact z3 _ _ _ (aw.2.1 (by omega)) aw.1
          · rcases bc with bc | bc
            · exact bc _ _ _ aw.1
            · have:=B5 j (bc j BT qj);rw [wX] at this;cases this
        refine bt _ _ _ B8 B6 B2 Ci K2 ?_;rw [aSi _ _ hH];exact aw.2.2
def Ij (F:List Nat) (P:Program) (ops:Array Oper) (Q:Exit→Act→World→Prop) (aZ:Nat→Nat):List Nat→Act→World→Prop
  | [],a,w0=>∀ w,Ext w0 w→Q .normal a w
  | i::r,a,w0=>∃ o,ops[i]? =some o∧
      ((aZ i=0∧∃ v,uO F P ops w0 o v a∧Ij F P ops Q aZ r (a.put o.dst v) w0)∨
       (aZ i=1∧∃ v,Yields P ops o v a∧Ij F P ops Q aZ r (a.put o.dst v) w0)∨
       (1<aZ i∧∀ w,Ext w0 w→wpOp P ops Q i (λ a' w'=>(aZ i=2→Mod F w0 w')∧Ij F P ops Q aZ r a' w') a w))
theorem NS (hs:Region.noSelect ops=true) (h1:∀ c a w,¬ Q (.panic c) a w):∀ (r:List Nat) (l:Array Bool) (a:Act) (w0:World),l.size=ops.size→j4 ops aZ r l=true→Ij F P ops Q aZ r a w0→Jl F P ops Q aZ r.length l a w0
  | [],l,a,w0,_,bc,h=>⟨by simpa [j4] using bc,h⟩
  | i::r,l,a,w0,az,bc,h=>by
    obtain ⟨o,b1,h⟩:=h;have mZ:=aTv hs;rcases h with ⟨av,v,I,hK⟩ | ⟨av,v,I,hK⟩ | ⟨av,h⟩
    · simp only [j4,av,aQT] at bc
      obtain ⟨⟨⟨hf,hr⟩,Φ⟩,bc⟩:=bc;obtain ⟨R,r1,r2,tZ⟩:=N2 az Φ;exact adS b1 (by omega) mZ h1 (λ w0 a=>uO F P ops w0 o v a) (λ _ _ h=>h) (λ _ _ _ h he hw=>h.of_same he hw) (λ _ _ _ hx h=>h.on hx) R l r1 (.inr tZ) _ _ _ _ r2 (λ _ h=>h) (aSx b1 hf) (by simpa using hr) I
        (NS hs h1 r _ _ _ (by simpa using az) bc hK)
    · simp only [j4,av,aQT] at bc
      obtain ⟨⟨hf,hr⟩,bc⟩:=bc;exact adS b1 (by omega) mZ h1 (λ _ a=>Yields P ops o v a) (λ _ _ h=>Yields.aAN h) (λ _ _ _ h he hw=>h.of_same he hw) (λ _ _ _ _ h=>h) (λ _=>true) l (λ _ _ _ _ _=>Z) (.inl λ _ _ _ h=>h) _ _ _ _ (λ _ _=>Z) (λ _ h=>h) (aSx b1 hf) (by simpa using hr) I
        (NS hs h1 r _ _ _ (by simpa using az) bc hK)
    · obtain ⟨k,fZ⟩:∃ k,aZ i=k+2:=⟨aZ i - 2,by omega⟩
      simp only [j4,fZ,aQT,aRK] at bc;obtain ⟨hr,bc⟩:=bc;refine ⟨λ aF=>(by rw [hr] at aF;cases aF),λ j ay=> ?_⟩;rw [hr] at ay;obtain rfl:j=i:=by simpa using ay
      exact ⟨o,b1, .inr ⟨av,λ w hw=>aS4 (λ a' w' aw=>⟨aw.1,NS hs h1 r _ _ _ (by simpa using az) bc aw.2⟩) (h w hw)⟩⟩
theorem aAV {id:Nat} {a:Act} {w:World} (bZ:List Nat) (hm:P.follows .mixedOrders=true) (bc:(Region.noSelect ops && (bZ.length == ops.size) && j4 ops aZ bZ (Array.replicate ops.size false))=true)
    (h:Ij F P ops (gW (Q .normal)) aZ bZ a w):(Code.region id ops true).wp P Q a w:=by
  simp only [aQT,aRK] at bc;obtain ⟨⟨hs,az⟩,bc⟩:=bc;refine wp_mono (aUE hm (Q:=gW (Q .normal)) ?_) (λ e a w I=>by cases e<;>first | exact I | exact I.elim);have:=NS (P:=P) hs (Q:=gW (Q .normal)) (λ _ _ _ h=>h) bZ (Array.replicate ops.size false) a w (by simp) bc h;rw [az] at this;exact Gf _ _ _ _ this _ (aRe _ w).drew
end
section
variable {F:List Nat} {P:Program} {n:Nat} {E cR:List (Nat×Value)} {a:Act} {w w' w0 aP:World} {Q:Exit→Act→World→Prop} {ops:Array Oper} {v:Value} {aZ:Nat→Nat}
variable {d:Option Nat} {ty:TypeId} {pos:String} {af:Array Edge} {g:Option (Nat×Bool)} {x y z:Operand} {t:TypeId} {rest:List Oper} {bZ:List Nat} {i:Nat}
def xW (F:List Nat) (P:Program) (n:Nat) (ops:Array Oper) (Q:Exit→Act→World→Prop) (aZ:Nat→Nat) (bZ:List Nat) (E:List (Nat×Value)) (w0:World):Prop:=∀ a,ek n E a→Ij F P ops (gW (Q .normal)) aZ bZ a w0
theorem QQ {id:Nat} (F:List Nat) (mq:List (Nat×Nat)) (bZ:List Nat) (hm:P.follows .mixedOrders=true) (bc:(Region.noSelect ops && (bZ.length == ops.size) && j4 ops (oC mq) bZ (Array.replicate ops.size false))=true)
    (h:xW F P n ops Q (oC mq) bZ E w):W P n (.region id ops true) Q E w:=λ a ha=>aAV bZ hm bc (h a ha)
theorem O1 (h:∀ w,Ext w0 w→N n Q E w):xW F P n ops Q aZ [] E w0:=λ a ha w hw=>h w hw a ha
theorem yo {d:Nat} {op:Op} (ar:ops[i]? =some ⟨some d,op,ty,pos,af,none⟩) (av:aZ i=0) (hr:∀ w,Mod F w0 w→cN P E ⟨some d,op,ty,pos,af,none⟩ w v w) (hd:Nat.blt d n=true)
    (h:xW F P n ops Q aZ bZ ((d,v)::E) w0):xW F P n ops Q aZ (i::bZ) E w0:=λ a ha =>
  ⟨_,ar, .inl ⟨av,v, .inl ⟨AU rfl,λ w hw=>by rw [hr w hw n a ha];exact ⟨rfl,rfl⟩⟩,h _ (ha.put hd v)⟩⟩
theorem jd {d:Nat} {op:Op} (ar:ops[i]? =some ⟨some d,op,ty,pos,af,none⟩) (av:aZ i=1) (hr:∀ w,cN P E ⟨some d,op,ty,pos,af,none⟩ w v w) (hd:Nat.blt d n=true)
    (h:xW F P n ops Q aZ bZ ((d,v)::E) w0):xW F P n ops Q aZ (i::bZ) E w0:=λ a ha =>
  ⟨_,ar, .inr (.inl ⟨av,v, .inl ⟨AU rfl,λ w=>hr w n a ha⟩,h _ (ha.put hd v)⟩)⟩
theorem Ec {o:Oper} (aM:o.guard=none) (ar:ops[i]? =some o) (av:aZ i=2) (h:∀ w,Ext w0 w→DR P n ops o E w λ cR w'=>Mod F w0 w'∧xW F P n ops Q aZ bZ cR w'):xW F P n ops Q aZ (i::bZ) E w0:=λ a ha =>
  ⟨_,ar, .inr (.inr ⟨by omega,λ w hw=>HY aM ar (h w hw) (λ cR w' a' av q_=>⟨λ _=>av.1,av.2 a' q_⟩) ha⟩)⟩
theorem Uq {o:Oper} (aM:o.guard=none) (ar:ops[i]? =some o) (av:aZ i=3) (h:∀ w,Ext w0 w→DR P n ops o E w λ cR w'=>xW F P n ops Q aZ bZ cR w'):xW F P n ops Q aZ (i::bZ) E w0:=λ a ha =>
  ⟨_,ar, .inr (.inr ⟨by omega,λ w hw=>HY aM ar (h w hw) (λ cR w' a' av q_=>⟨λ ab=>by omega,av a' q_⟩) ha⟩)⟩
end
end
end Go.Proofs.YtlikikpgmmkjbaaGreat
