import Derived.Test.YtlikikpgmmkjbaaGreatOrds
set_option linter.unusedVariables false
set_option linter.unusedSimpArgs false
set_option maxRecDepth 100000
set_option maxHeartbeats 4000000
open Go.RowKit
namespace Go.Proofs.YtlikikpgmmkjbaaGreat
open Tryz
abbrev aTc:=@List.flatMap_append
abbrev aTp:=@List.flatMap_cons
abbrev aT0:=@List.flatMap_nil
abbrev aWg:=@Option.map_eq_none_iff
section
theorem aoT:eN prog di.rep 123 223 16:=eN.k_ (z:=di.zero) (k:=2) underlying123 di.info rfl rfl (by decide) di.iE
theorem aoU:eN prog dj.rep 124 225 24:=eN.k_ (z:=dj.zero) (k:=3) underlying124 dj.info rfl rfl (by decide) dj.iE
theorem TH:eN prog ck.rep 125 178 40:=eN.k_ (z:=ck.zero) (k:=5) underlying125 ck.info rfl rfl (by decide) ck.iE
def nJ (o:aL):List di:=if o.kind=1 then [⟨o.aQ,o.what⟩] else []
def nL (o:aL):List dj:=if o.kind=2 then [⟨o.aQ,⟨o.spot.x,o.spot.y⟩⟩] else []
def nK (o:aL):List ck:=if o.kind=3 then [⟨1,o.aQ,⟨o.spot.x,o.spot.y⟩,0⟩] else if o.kind=4 then [⟨2,o.aQ,⟨0,0⟩,0⟩] else if o.kind=5 then [⟨3,o.by_,⟨0,0⟩,o.what⟩] else []
theorem acm (o:aL) (w0:World) (tO:Nat) (A B C:Option Addr) (a b c:Nat) (s6:List di) (xS:List dj) (zh:List ck) (w:World) (jb:Ext w0 w) (dM:o.ok) (hS:aP w tO [.slice A s6.length a, .slice B xS.length b, .slice C zh.length c] 169 (0,0)) (hA:di.rep.aF 223 16 w w0.heap.size (τ.ag A) A a s6) (bg:dj.rep.aF 225 24 w w0.heap.size (τ.ag B) B b xS) (dX:ck.rep.aF 178 40 w w0.heap.size (τ.ag C) C c zh) (vo:∀ q∈τ.ag A,q=tO→False) (vp:∀ q∈τ.ag B,q=tO→False) (sH:∀ q∈τ.ag C,q=tO→False) (Ck:∀ q∈τ.ag B,q∈τ.ag A→False) (yE:∀ q∈τ.ag C,q∈τ.ag A→False) (yF:∀ q∈τ.ag C,q∈τ.ag B→False) (Fy:s6.length≤100) (uA:xS.length≤100) (p8:zh.length≤100):
  Calls prog 94 #[.pointer (some ⟨tO,0,none⟩), .agg #[.int .i64 o.by_, .int .i64 o.kind, .int .i64 o.aQ, .int .i64 o.spot.x, .int .i64 o.spot.y, .int .i64 o.what]] w (λ e w'=>∃ bM a' q_ pH DY b8,e= .returned (.tuple #[])∧aP w' tO [.slice bM (s6++nJ o).length a', .slice q_ (xS++nL o).length pH, .slice DY (zh++nK o).length b8] 169 (0,0)∧di.rep.aF 223 16 w' w0.heap.size (τ.ag bM) bM a' (s6++nJ o)∧dj.rep.aF 225 24 w' w0.heap.size (τ.ag q_) q_ pH (xS++nL o)∧ck.rep.aF 178 40 w' w0.heap.size (τ.ag DY) DY b8 (zh++nK o)∧(∀ q∈τ.ag bM,q=tO→False)∧(∀ q∈τ.ag q_,q=tO→False)∧(∀ q∈τ.ag DY,q=tO→False)∧(∀ q∈τ.ag q_,q∈τ.ag bM→False)∧(∀ q∈τ.ag DY,q∈τ.ag bM→False)∧(∀ q∈τ.ag DY,q∈τ.ag q_→False)∧(∀ q∈τ.ag bM,q∈τ.ag A∨w.heap.size≤q)∧(∀ q∈τ.ag q_,q∈τ.ag B∨w.heap.size≤q)∧(∀ q∈τ.ag DY,q∈τ.ag C∨w.heap.size≤q)∧Mod (tO::(τ.ag A++(τ.ag B++τ.ag C))) w w'):=by
 have aLo:=jb.size;have kU:=hS.lt;have M0:=λ q I=>(hA.lt q I).2;have R1:=λ q I=>(bg.lt q I).2;have alL:=λ q I=>(dX.lt q I).2;have aLT:∀ q∈τ.ag A,w0.heap.size≤q:=λ q I=>(hA.lt q I).1;have XH:∀ q∈τ.ag B,w0.heap.size≤q:=λ q I=>(bg.lt q I).1;have aLU:∀ q∈τ.ag C,w0.heap.size≤q:=λ q I=>(dX.lt q I).1;refine cd (n:=84) func94 Z Z Z ?_;refine aj<|cw Z Z Z Z λ cI bJ a7 dY ab=> ?_;have:=a7.size;have bk:=(Mod.bI (tO::(τ.ag A++(τ.ag B++τ.ag C))) w).trans (Mod.bz a7);have ed:=ab.lt;refine ai<|aj<|J (au pL Z)<|J (ak Z (ab.one ba Z))<|ai<|bS<|aj<|J (beq Z Z)<|va Z<|ai<| ?_;refine jA Z (λ qC=> ?_) (λ qC=> ?_)
 ·refine rd [(4,0),(6,0),(8,0),(10,2),(11,3),(14,3)] [0,1,2,3,4,5,6,7,8,9,10,11,12,13,14] (by kernel_rfl) (by kernel_rfl) ?_;refine aq Z (λ _=>aH Z)<|aq Z (λ _=>aH Z)<|aq Z (λ _=>b3 Z)<|aq Z (λ _=>au UO Z)<| ?_;have hS:=hS.later a7;refine bA Z (λ _ x=>ak Z ((hS.later x).one aen Z))<|aq Z (λ _=>au Cq Z)<|bA Z (λ _ x=>ak Z ((ab.later x).one ba Z))<|aq Z (λ _=>au Cs Z)<|bA Z (λ _ x=>ak Z ((ab.later x).one ba Z))<|rF (v:= .agg #[.int .i64 o.aQ, .int .i64 o.what]) Z Z (λ _=>cE Z (by kernel_rfl)) Z<|e8 Z Z Z λ uN bj Q hK=>cV (e:= 223) (cs:= [.int .i64 o.aQ, .int .i64 o.what]) Z (λ _=>by kernel_rfl) Z λ wg yz dm Ma fY=>hK _ _ ⟨γ bj dm, ?_⟩;have:=bj.size;have jX:=bk.trans (Mod.bz bj);have:=dm.size;have kB:=jX.trans (Mod.bz dm);have akt:=fY.lt;have hA:=hA.later (γ a7 (γ bj dm));refine eo Z Z Z λ FR uR Q hK=>ap aoT τ.dt (hA.later uR) ((aP.gC (R:=di.rep) (by_:=16) (q:=(⟨o.aQ,o.what⟩:di)) fY ⟨Z,(by obtain ⟨FA,o4,l2,nI,od,p_⟩:=dM;exact ⟨l2,p_⟩)⟩ (by decide)).keep uR) Z Z (by simp only [aRW,aR2];omega) (by simp only [aRW,aR2];omega) (by have:=uR.size;omega) Z λ zz DR Uo lB tK Hk aAb=>hK _ _ ?_;have:=uR.size;have sj:=kB.trans (Mod.bz uR);have:=lB.size;have kC:=sj.md lB (λ q I=> .inl (aR7 _ (aR6.2 (.inl I))));have aDY:=λ q I=>(tK.lt q I).2;have:=lB.size;refine aq Z (λ _=>b3 Z)<|aq Z (λ _=>au UO Z)<| ?_;have hS:=hS.later (γ bj (γ dm uR));have hS:=hS.mod lB (λ I=>vo _ I rfl);refine eo Z Z Z λ xZ gh Q hK=>st (new:= [.slice DR ((s6++ [(⟨o.aQ,o.what⟩:di)]).length) Uo, .slice B xS.length b, .slice C zh.length c]) Z Z (hS.later gh) Z asD Z Z Z λ FU kb hS=>hK _ _ ?_;have:=gh.size;have lM:=kC.trans (Mod.bz gh);have:=kb.size;have q4:=lM.md kb (λ q I=> .inl (by rw [aRP.1 I];exact aSe));refine fn λ uM ej=> ?_;have:=ej.size;have ll:=q4.trans (Mod.bz ej);refine bY<|ne<|a8 .nil<| ?_;have hS:=hS.later ej;have tK:=tK.later gh;have tK:=tK.mod kb (λ q I h=>by have Φ:=aRP.1 h;exfalso;(exact aR4 (Hk q I) (λ aiE=>by (exact vo q aiE Φ)) (λ aiE=>by omega)));have tK:=tK.later ej;have bg:=bg.later (γ a7 (γ bj (γ dm uR)));have bg:=bg.mod lB (λ q I h=>by exfalso;(exact Ck q I h));have bg:=bg.later gh;have bg:=bg.mod kb (λ q I h=>by have Φ:=aRP.1 h;exfalso;(exact vp q I Φ));have bg:=bg.later ej;have dX:=dX.later (γ a7 (γ bj (γ dm uR)));have dX:=dX.mod lB (λ q I h=>by exfalso;(exact yE q I h));have dX:=dX.later gh;have dX:=dX.mod kb (λ q I h=>by have Φ:=aRP.1 h;exfalso;(exact sH q I Φ));have dX:=dX.later ej;have bc:nJ o= [(⟨o.aQ,o.what⟩:di)]:=by unfold nJ;simp [*]
  have bl:nL o= []:=by unfold nL;simp [*]
  have cH:nK o= []:=by unfold nK;simp [*]
  rw [bc,bl,cH];simp only [aSu];exact ⟨DR,Uo,B,b,C,c,Z,hS,tK,bg,dX,(λ q I Φ=>by (exact aR4 (Hk q I) (λ aiF=>by (exact vo q aiF Φ)) (λ aiF=>by omega))),(λ q I Φ=>by (exact vp q I Φ)),(λ q I Φ=>by (exact sH q I Φ)),(λ q I Φ=>by (exact aR4 (Hk q Φ) (λ aiG=>by (exact Ck q I aiG)) (λ aiG=>by (have:=R1 q I;omega)))),(λ q I Φ=>by (exact aR4 (Hk q Φ) (λ QU=>by (exact yE q I QU)) (λ QU=>by (have:=alL q I;omega)))),(λ q I Φ=>by (exact yF q I Φ)),(λ q I=>(Hk q I).imp id λ h=>by omega),(λ q I=> .inl I),(λ q I=> .inl I),ll⟩
 ·refine aj<|J (beq Z Z)<|va Z<|ai<| ?_;refine jA Z (λ KT=> ?_) (λ KT=> ?_)
  ·refine rd [(4,0),(6,0),(8,0),(10,2),(11,3),(14,3)] [0,1,2,3,4,5,6,7,8,9,10,11,12,13,14] (by kernel_rfl) (by kernel_rfl) ?_;refine aq Z (λ _=>aH Z)<|aq Z (λ _=>aH Z)<|aq Z (λ _=>b3 Z)<|aq Z (λ _=>au UP Z)<| ?_;have hS:=hS.later a7;refine bA Z (λ _ x=>ak Z ((hS.later x).one aep Z))<|aq Z (λ _=>au Cq Z)<|bA Z (λ _ x=>ak Z ((ab.later x).one ba Z))<|aq Z (λ _=>au Cr Z)<|bA Z (λ _ x=>ak Z ((ab.later x).par [.int .i64 o.spot.x, .int .i64 o.spot.y] cg bT Z))<|rF (v:= .agg #[.int .i64 o.aQ, .int .i64 o.spot.x, .int .i64 o.spot.y]) Z Z (λ _=>cE Z (by kernel_rfl)) Z<|e8 Z Z Z λ FV hG Q hK=>cV (e:= 225) (cs:= [.int .i64 o.aQ, .int .i64 o.spot.x, .int .i64 o.spot.y]) Z (λ _=>by kernel_rfl) Z λ Sq Ag eU aja u3=>hK _ _ ⟨γ hG eU, ?_⟩;have:=hG.size;have tz:=bk.trans (Mod.bz hG);have:=eU.size;have BA:=tz.trans (Mod.bz eU);have Iv:=u3.lt;have bg:=bg.later (γ a7 (γ hG eU));refine eo Z Z Z λ qd ek Q hK=>ap aoU τ.dt (bg.later ek) ((aP.gC (R:=dj.rep) (by_:=24) (q:=(⟨o.aQ,⟨o.spot.x,o.spot.y⟩⟩:dj)) u3 ⟨Z,(by obtain ⟨FA,o4,l2,nI,od,p_⟩:=dM;exact ⟨l2,nI,od⟩)⟩ (by decide)).keep ek) Z Z (by simp only [aRW,aR2];omega) (by simp only [aRW,aR2];omega) (by have:=ek.size;omega) Z λ amo aar ac2 y_ B5 KB aN3=>hK _ _ ?_;have:=ek.size;have hI:=BA.trans (Mod.bz ek);have:=y_.size;have NG:=hI.md y_ (λ q I=> .inl (aR7 _ (aR6.2 (.inr (aR6.2 (.inl I))))));have Sc:=λ q I=>(B5.lt q I).2;have:=y_.size;refine aq Z (λ _=>b3 Z)<|aq Z (λ _=>au UP Z)<| ?_;have hS:=hS.later (γ hG (γ eU ek));have hS:=hS.mod y_ (λ I=>vp _ I rfl);refine eo Z Z Z λ Ni mZ Q hK=>st (new:= [.slice A s6.length a, .slice aar ((xS++ [(⟨o.aQ,⟨o.spot.x,o.spot.y⟩⟩:dj)]).length) ac2, .slice C zh.length c]) Z Z (hS.later mZ) Z asE Z Z Z λ ZD sY hS=>hK _ _ ?_;have:=mZ.size;have x9:=NG.trans (Mod.bz mZ);have:=sY.size;have Gg:=x9.md sY (λ q I=> .inl (by rw [aRP.1 I];exact aSe));refine fn λ FZ cG=> ?_;have:=cG.size;have na:=Gg.trans (Mod.bz cG);refine bY<|ne<|a8 .nil<| ?_;have hS:=hS.later cG;have hA:=hA.later (γ a7 (γ hG (γ eU ek)));have hA:=hA.mod y_ (λ q I h=>by exfalso;(exact Ck q h I));have hA:=hA.later mZ;have hA:=hA.mod sY (λ q I h=>by have Φ:=aRP.1 h;exfalso;(exact vo q I Φ));have hA:=hA.later cG;have B5:=B5.later mZ;have B5:=B5.mod sY (λ q I h=>by have Φ:=aRP.1 h;exfalso;(exact aR4 (KB q I) (λ L8=>by (exact vp q L8 Φ)) (λ L8=>by omega)));have B5:=B5.later cG;have dX:=dX.later (γ a7 (γ hG (γ eU ek)));have dX:=dX.mod y_ (λ q I h=>by exfalso;(exact yF q I h));have dX:=dX.later mZ;have dX:=dX.mod sY (λ q I h=>by have Φ:=aRP.1 h;exfalso;(exact sH q I Φ));have dX:=dX.later cG;have bc:nJ o= []:=by unfold nJ;simp [*]
   have bl:nL o= [(⟨o.aQ,⟨o.spot.x,o.spot.y⟩⟩:dj)]:=by unfold nL;simp [*]
   have cH:nK o= []:=by unfold nK;simp [*]
   rw [bc,bl,cH];simp only [aSu];exact ⟨A,a,aar,ac2,C,c,Z,hS,hA,B5,dX,(λ q I Φ=>by (exact vo q I Φ)),(λ q I Φ=>by (exact aR4 (KB q I) (λ L9=>by (exact vp q L9 Φ)) (λ L9=>by omega))),(λ q I Φ=>by (exact sH q I Φ)),(λ q I Φ=>by (exact aR4 (KB q I) (λ xA=>by (exact Ck q xA Φ)) (λ xA=>by (have:=M0 q Φ;omega)))),(λ q I Φ=>by (exact yE q I Φ)),(λ q I Φ=>by (exact aR4 (KB q Φ) (λ C2=>by (exact yF q I C2)) (λ C2=>by (have:=alL q I;omega)))),(λ q I=> .inl I),(λ q I=>(KB q I).imp id λ h=>by omega),(λ q I=> .inl I),na⟩
  ·refine aj<|J (beq Z Z)<|va Z<|ai<| ?_;refine jA Z (λ ub=> ?_) (λ ub=> ?_)
   ·refine rd [(4,0),(6,0),(8,0),(10,2),(11,3),(14,3)] [0,1,2,3,4,5,6,7,8,9,10,11,12,13,14] (by kernel_rfl) (by kernel_rfl) ?_;refine aq Z (λ _=>aH Z)<|aq Z (λ _=>aH Z)<|aq Z (λ _=>b3 Z)<|aq Z (λ _=>au EE Z)<| ?_;have hS:=hS.later a7;refine bA Z (λ _ x=>ak Z ((hS.later x).one Pr Z))<|aq Z (λ _=>au Cq Z)<|bA Z (λ _ x=>ak Z ((ab.later x).one ba Z))<|aq Z (λ _=>au Cr Z)<|bA Z (λ _ x=>ak Z ((ab.later x).par [.int .i64 o.spot.x, .int .i64 o.spot.y] cg bT Z))<|rF (v:= .agg #[.int .i64 1, .int .i64 o.aQ, .int .i64 o.spot.x, .int .i64 o.spot.y, .int .i64 0]) Z Z (λ _=>cE Z (by kernel_rfl)) Z<|e8 Z Z Z λ Nk fG Q hK=>cV (e:= 178) (cs:= [.int .i64 1, .int .i64 o.aQ, .int .i64 o.spot.x, .int .i64 o.spot.y, .int .i64 0]) Z (λ _=>by kernel_rfl) Z λ F0 apz jj ayY DX=>hK _ _ ⟨γ fG jj, ?_⟩;have:=fG.size;have wA:=bk.trans (Mod.bz fG);have:=jj.size;have kg:=wA.trans (Mod.bz jj);have aPu:=DX.lt;have dX:=dX.later (γ a7 (γ fG jj));refine eo Z Z Z λ Sv tr Q hK=>ap TH τ.dt (dX.later tr) ((aP.gC (R:=ck.rep) (by_:=40) (q:=(⟨1,o.aQ,⟨o.spot.x,o.spot.y⟩,0⟩:ck)) DX ⟨Z,(by obtain ⟨FA,o4,l2,nI,od,p_⟩:=dM;exact ⟨bG.2 (by (try dsimp only);omega),l2,nI,od,bG.2 (by (try dsimp only);omega)⟩)⟩ (by decide)).keep tr) Z Z (by simp only [aRW,aR2];omega) (by simp only [aRW,aR2];omega) (by have:=tr.size;omega) Z λ ams aat ac3 xE BZ Kv aND=>hK _ _ ?_;have:=tr.size;have BF:=kg.trans (Mod.bz tr);have:=xE.size;have NJ:=BF.md xE (λ q I=> .inl (aR7 _ (aR6.2 (.inr (aR6.2 (.inr I))))));have aP7:=λ q I=>(BZ.lt q I).2;have:=xE.size;refine aq Z (λ _=>b3 Z)<|aq Z (λ _=>au EE Z)<| ?_;have hS:=hS.later (γ fG (γ jj tr));have hS:=hS.mod xE (λ I=>sH _ I rfl);refine eo Z Z Z λ aEF jT Q hK=>st (new:= [.slice A s6.length a, .slice B xS.length b, .slice aat ((zh++ [(⟨1,o.aQ,⟨o.spot.x,o.spot.y⟩,0⟩:ck)]).length) ac3]) Z Z (hS.later jT) Z UQ Z Z Z λ aEG uq hS=>hK _ _ ?_;have:=jT.size;have ZU:=NJ.trans (Mod.bz jT);have:=uq.size;have ZV:=ZU.md uq (λ q I=> .inl (by rw [aRP.1 I];exact aSe));refine fn λ Zx uP=> ?_;have:=uP.size;have Gc:=ZV.trans (Mod.bz uP);refine bY<|ne<|a8 .nil<| ?_;have hS:=hS.later uP;have hA:=hA.later (γ a7 (γ fG (γ jj tr)));have hA:=hA.mod xE (λ q I h=>by exfalso;(exact yE q h I));have hA:=hA.later jT;have hA:=hA.mod uq (λ q I h=>by have Φ:=aRP.1 h;exfalso;(exact vo q I Φ));have hA:=hA.later uP;have bg:=bg.later (γ a7 (γ fG (γ jj tr)));have bg:=bg.mod xE (λ q I h=>by exfalso;(exact yF q h I));have bg:=bg.later jT;have bg:=bg.mod uq (λ q I h=>by have Φ:=aRP.1 h;exfalso;(exact vp q I Φ));have bg:=bg.later uP;have BZ:=BZ.later jT;have BZ:=BZ.mod uq (λ q I h=>by have Φ:=aRP.1 h;exfalso;(exact aR4 (Kv q I) (λ C0=>by (exact sH q C0 Φ)) (λ C0=>by omega)));have BZ:=BZ.later uP;have bc:nJ o= []:=by unfold nJ;simp [*]
    have bl:nL o= []:=by unfold nL;simp [*]
    have cH:nK o= [(⟨1,o.aQ,⟨o.spot.x,o.spot.y⟩,0⟩:ck)]:=by unfold nK;simp [*]
    rw [bc,bl,cH];simp only [aSu];exact ⟨A,a,B,b,aat,ac3,Z,hS,hA,bg,BZ,(λ q I Φ=>by (exact vo q I Φ)),(λ q I Φ=>by (exact vp q I Φ)),(λ q I Φ=>by (exact aR4 (Kv q I) (λ LU=>by (exact sH q LU Φ)) (λ LU=>by omega))),(λ q I Φ=>by (exact Ck q I Φ)),(λ q I Φ=>by (exact aR4 (Kv q I) (λ LV=>by (exact yE q LV Φ)) (λ LV=>by (have:=M0 q Φ;omega)))),(λ q I Φ=>by (exact aR4 (Kv q I) (λ LW=>by (exact yF q LW Φ)) (λ LW=>by (have:=R1 q Φ;omega)))),(λ q I=> .inl I),(λ q I=> .inl I),(λ q I=>(Kv q I).imp id λ h=>by omega),Gc⟩
   ·refine aj<|J (beq Z Z)<|va Z<|ai<| ?_;refine jA Z (λ au9=> ?_) (λ au9=> ?_)
    ·refine rd [(4,0),(6,0),(8,2),(9,3),(12,3)] [0,1,2,3,4,5,6,7,8,9,10,11,12] (by kernel_rfl) (by kernel_rfl) ?_;refine aq Z (λ _=>aH Z)<|aq Z (λ _=>aH Z)<|aq Z (λ _=>b3 Z)<|aq Z (λ _=>au EE Z)<| ?_;have hS:=hS.later a7;refine bA Z (λ _ x=>ak Z ((hS.later x).one Pr Z))<|aq Z (λ _=>au Cq Z)<|bA Z (λ _ x=>ak Z ((ab.later x).one ba Z))<|rF (v:= .agg #[.int .i64 2, .int .i64 o.aQ, .int .i64 0, .int .i64 0, .int .i64 0]) Z Z (λ _=>cE Z (by kernel_rfl)) Z<|e8 Z Z Z λ aEJ F4 Q hK=>cV (e:= 178) (cs:= [.int .i64 2, .int .i64 o.aQ, .int .i64 0, .int .i64 0, .int .i64 0]) Z (λ _=>by kernel_rfl) Z λ aQW aIc F5 aMg aaD=>hK _ _ ⟨γ F4 F5, ?_⟩;have:=F4.size;have ZY:=bk.trans (Mod.bz F4);have:=F5.size;have aFQ:=ZY.trans (Mod.bz F5);have aOJ:=aaD.lt;have dX:=dX.later (γ a7 (γ F4 F5));refine eo Z Z Z λ amg DG Q hK=>ap TH τ.dt (dX.later DG) ((aP.gC (R:=ck.rep) (by_:=40) (q:=(⟨2,o.aQ,⟨0,0⟩,0⟩:ck)) aaD ⟨Z,(by obtain ⟨FA,o4,l2,nI,od,p_⟩:=dM;exact ⟨bG.2 (by (try dsimp only);omega),l2,bG.2 (by (try dsimp only);omega),bG.2 (by (try dsimp only);omega),bG.2 (by (try dsimp only);omega)⟩)⟩ (by decide)).keep DG) Z Z (by simp only [aRW,aR2];omega) (by simp only [aRW,aR2];omega) (by have:=DG.size;omega) Z λ amh aal acW H5 B0 Ky aNK=>hK _ _ ?_;have:=DG.size;have Nx:=aFQ.trans (Mod.bz DG);have:=H5.size;have Bz:=Nx.md H5 (λ q I=> .inl (aR7 _ (aR6.2 (.inr (aR6.2 (.inr I))))));have aQc:=λ q I=>(B0.lt q I).2;have:=H5.size;refine aq Z (λ _=>b3 Z)<|aq Z (λ _=>au EE Z)<| ?_;have hS:=hS.later (γ F4 (γ F5 DG));have hS:=hS.mod H5 (λ I=>sH _ I rfl);refine eo Z Z Z λ aQ5 Jd Q hK=>st (new:= [.slice A s6.length a, .slice B xS.length b, .slice aal ((zh++ [(⟨2,o.aQ,⟨0,0⟩,0⟩:ck)]).length) acW]) Z Z (hS.later Jd) Z UQ Z Z Z λ amj AZ hS=>hK _ _ ?_;have:=Jd.size;have aFY:=Bz.trans (Mod.bz Jd);have:=AZ.size;have Jj:=aFY.md AZ (λ q I=> .inl (by rw [aRP.1 I];exact aSe));refine fn λ aER lL=> ?_;have:=lL.size;have Z3:=Jj.trans (Mod.bz lL);refine bY<|ne<|a8 .nil<| ?_;have hS:=hS.later lL;have hA:=hA.later (γ a7 (γ F4 (γ F5 DG)));have hA:=hA.mod H5 (λ q I h=>by exfalso;(exact yE q h I));have hA:=hA.later Jd;have hA:=hA.mod AZ (λ q I h=>by have Φ:=aRP.1 h;exfalso;(exact vo q I Φ));have hA:=hA.later lL;have bg:=bg.later (γ a7 (γ F4 (γ F5 DG)));have bg:=bg.mod H5 (λ q I h=>by exfalso;(exact yF q h I));have bg:=bg.later Jd;have bg:=bg.mod AZ (λ q I h=>by have Φ:=aRP.1 h;exfalso;(exact vp q I Φ));have bg:=bg.later lL;have B0:=B0.later Jd;have B0:=B0.mod AZ (λ q I h=>by have Φ:=aRP.1 h;exfalso;(exact aR4 (Ky q I) (λ C1=>by (exact sH q C1 Φ)) (λ C1=>by omega)));have B0:=B0.later lL;have bc:nJ o= []:=by unfold nJ;simp [*]
     have bl:nL o= []:=by unfold nL;simp [*]
     have cH:nK o= [(⟨2,o.aQ,⟨0,0⟩,0⟩:ck)]:=by unfold nK;simp [*]
     rw [bc,bl,cH];simp only [aSu];exact ⟨A,a,B,b,aal,acW,Z,hS,hA,bg,B0,(λ q I Φ=>by (exact vo q I Φ)),(λ q I Φ=>by (exact vp q I Φ)),(λ q I Φ=>by (exact aR4 (Ky q I) (λ LZ=>by (exact sH q LZ Φ)) (λ LZ=>by omega))),(λ q I Φ=>by (exact Ck q I Φ)),(λ q I Φ=>by (exact aR4 (Ky q I) (λ L0=>by (exact yE q L0 Φ)) (λ L0=>by (have:=M0 q Φ;omega)))),(λ q I Φ=>by (exact aR4 (Ky q I) (λ L1=>by (exact yF q L1 Φ)) (λ L1=>by (have:=R1 q Φ;omega)))),(λ q I=> .inl I),(λ q I=> .inl I),(λ q I=>(Ky q I).imp id λ h=>by omega),Z3⟩
    ·refine aj<|J (beq Z Z)<|va Z<|ai<| ?_;refine jA Z (λ avg=> ?_) (λ avg=> ?_)
     ·refine rd [(4,0),(6,0),(8,0),(10,2),(11,3),(14,3)] [0,1,2,3,4,5,6,7,8,9,10,11,12,13,14] (by kernel_rfl) (by kernel_rfl) ?_;refine aq Z (λ _=>aH Z)<|aq Z (λ _=>aH Z)<|aq Z (λ _=>b3 Z)<|aq Z (λ _=>au EE Z)<| ?_;have hS:=hS.later a7;refine bA Z (λ _ x=>ak Z ((hS.later x).one Pr Z))<|aq Z (λ _=>au tW Z)<|bA Z (λ _ x=>ak Z ((ab.later x).one ba Z))<|aq Z (λ _=>au Cs Z)<|bA Z (λ _ x=>ak Z ((ab.later x).one ba Z))<|rF (v:= .agg #[.int .i64 3, .int .i64 o.by_, .int .i64 0, .int .i64 0, .int .i64 o.what]) Z Z (λ _=>cE Z (by kernel_rfl)) Z<|e8 Z Z Z λ Sn F9 Q hK=>cV (e:= 178) (cs:= [.int .i64 3, .int .i64 o.by_, .int .i64 0, .int .i64 0, .int .i64 o.what]) Z (λ _=>by kernel_rfl) Z λ aEU aIl F_ aMq aaK=>hK _ _ ⟨γ F9 F_, ?_⟩;have:=F9.size;have Z6:=bk.trans (Mod.bz F9);have:=F_.size;have Z7:=Z6.trans (Mod.bz F_);have aOU:=aaK.lt;have dX:=dX.later (γ a7 (γ F9 F_));refine eo Z Z Z λ aRe DI Q hK=>ap TH τ.dt (dX.later DI) ((aP.gC (R:=ck.rep) (by_:=40) (q:=(⟨3,o.by_,⟨0,0⟩,o.what⟩:ck)) aaK ⟨Z,(by obtain ⟨FA,o4,l2,nI,od,p_⟩:=dM;exact ⟨bG.2 (by (try dsimp only);omega),FA,bG.2 (by (try dsimp only);omega),bG.2 (by (try dsimp only);omega),p_⟩)⟩ (by decide)).keep DI) Z Z (by simp only [aRW,aR2];omega) (by simp only [aRW,aR2];omega) (by have:=DI.size;omega) Z λ aRf aap acY H9 B2 Kz aNS=>hK _ _ ?_;have:=DI.size;have aF6:=Z7.trans (Mod.bz DI);have:=H9.size;have aF7:=aF6.md H9 (λ q I=> .inl (aR7 _ (aR6.2 (.inr (aR6.2 (.inr I))))));have aQj:=λ q I=>(B2.lt q I).2;have:=H9.size;refine aq Z (λ _=>b3 Z)<|aq Z (λ _=>au EE Z)<| ?_;have hS:=hS.later (γ F9 (γ F_ DI));have hS:=hS.mod H9 (λ I=>sH _ I rfl);refine eo Z Z Z λ aRk Jg Q hK=>st (new:= [.slice A s6.length a, .slice B xS.length b, .slice aap ((zh++ [(⟨3,o.by_,⟨0,0⟩,o.what⟩:ck)]).length) acY]) Z Z (hS.later Jg) Z UQ Z Z Z λ aRl Mr hS=>hK _ _ ?_;have:=Jg.size;have aGc:=aF7.trans (Mod.bz Jg);have:=Mr.size;have aGd:=aGc.md Mr (λ q I=> .inl (by rw [aRP.1 I];exact aSe));refine fn λ aEY q0=> ?_;have:=q0.size;have Z9:=aGd.trans (Mod.bz q0);refine bY<|ne<|a8 .nil<| ?_;have hS:=hS.later q0;have hA:=hA.later (γ a7 (γ F9 (γ F_ DI)));have hA:=hA.mod H9 (λ q I h=>by exfalso;(exact yE q h I));have hA:=hA.later Jg;have hA:=hA.mod Mr (λ q I h=>by have Φ:=aRP.1 h;exfalso;(exact vo q I Φ));have hA:=hA.later q0;have bg:=bg.later (γ a7 (γ F9 (γ F_ DI)));have bg:=bg.mod H9 (λ q I h=>by exfalso;(exact yF q h I));have bg:=bg.later Jg;have bg:=bg.mod Mr (λ q I h=>by have Φ:=aRP.1 h;exfalso;(exact vp q I Φ));have bg:=bg.later q0;have B2:=B2.later Jg;have B2:=B2.mod Mr (λ q I h=>by have Φ:=aRP.1 h;exfalso;(exact aR4 (Kz q I) (λ ah9=>by (exact sH q ah9 Φ)) (λ ah9=>by omega)));have B2:=B2.later q0;have bc:nJ o= []:=by unfold nJ;simp [*]
      have bl:nL o= []:=by unfold nL;simp [*]
      have cH:nK o= [(⟨3,o.by_,⟨0,0⟩,o.what⟩:ck)]:=by unfold nK;simp [*]
      rw [bc,bl,cH];simp only [aSu];exact ⟨A,a,B,b,aap,acY,Z,hS,hA,bg,B2,(λ q I Φ=>by (exact vo q I Φ)),(λ q I Φ=>by (exact vp q I Φ)),(λ q I Φ=>by (exact aR4 (Kz q I) (λ aia=>by (exact sH q aia Φ)) (λ aia=>by omega))),(λ q I Φ=>by (exact Ck q I Φ)),(λ q I Φ=>by (exact aR4 (Kz q I) (λ L3=>by (exact yE q L3 Φ)) (λ L3=>by (have:=M0 q Φ;omega)))),(λ q I Φ=>by (exact aR4 (Kz q I) (λ aib=>by (exact yF q aib Φ)) (λ aib=>by (have:=R1 q Φ;omega)))),(λ q I=> .inl I),(λ q I=> .inl I),(λ q I=>(Kz q I).imp id λ h=>by omega),Z9⟩
     ·refine fo<|bY<|ne<|a8 .nil<| ?_;have hS:=hS.later a7;have hA:=hA.later a7;have bg:=bg.later a7;have dX:=dX.later a7;have bc:nJ o= []:=by unfold nJ;simp [*]
      have bl:nL o= []:=by unfold nL;simp [*]
      have cH:nK o= []:=by unfold nK;simp [*]
      rw [bc,bl,cH];simp only [aSu];exact ⟨A,a,B,b,C,c,Z,hS,hA,bg,dX,(λ q I Φ=>by (exact vo q I Φ)),(λ q I Φ=>by (exact vp q I Φ)),(λ q I Φ=>by (exact sH q I Φ)),(λ q I Φ=>by (exact Ck q I Φ)),(λ q I Φ=>by (exact yE q I Φ)),(λ q I Φ=>by (exact yF q I Φ)),(λ q I=> .inl I),(λ q I=> .inl I),(λ q I=> .inl I),bk⟩
end
section
theorem Ik {l:List aL} (h:hC l=0):l.length≤100∧∀ o∈l,o.bp=0:=by
 unfold hC at h;split at h
 ·cases h
 ·refine ⟨by omega,λ o b7=> ?_⟩;split at h
  ·rename_i x hx
   have:=aUX hx;rw [h] at this;exact nomatch this
  ·rename_i hx
   have:=aTe.1 hx o b7;simpa using this
end
section
def xN (W:ah) (k:Nat):List (Int×Int):=(W.ao.take k).map λ t=>(t.id,t.owner)
theorem aAT {W:ah} {k:Nat} (h:k<W.ao.length):xN W (k+1)=xN W k++ [((W.ao.getD k default).id,(W.ao.getD k default).owner)]:=by
 unfold xN;rw [Bc (d:=default) h,aSi];rfl
theorem aAV {W:ah} (bB:Good W) {k:Nat} (h:k<W.ao.length):cN (xN W k) (W.ao.getD k default).id=none:=by
 unfold cN xN;rw [List.find?_map,aWg,aWg,aTe];intro x hx;obtain ⟨i,ar,e⟩:=aSP.1 hx;rw [aRU] at ar;rw [List.getElem_take] at e;have:=(aSM.1 bB.It) i k (by omega) h (by omega);rw [← e,nu h];have κ:=this.1;simp only [Function.comp_apply,aSQ];omega
def may (W:ah) (o:aL):Bool:=if o.kind=5 then decide (o.by_<(W.aU.length:Int)) && (o.by_ == o.by_) else (cN (xN W W.ao.length) o.aQ).isSome && ((cN (xN W W.ao.length) o.aQ).getD 0 == o.by_)
def dN (W:ah) (l:List aL) (k:Nat):List di:=(l.take k).flatMap λ o=>if may W o=true then nJ o else []
theorem Y_ {W:ah} {l:List aL} {k:Nat} (h:k<l.length) (hm:may W (l.getD k default)=true):dN W l (k+1)=dN W l k++nJ (l.getD k default):=by
 unfold dN;rw [Bc (d:=default) h,aTc,aTp,aT0,aSu,aR5 hm]
theorem Y9 {W:ah} {l:List aL} {k:Nat} (h:k<l.length) (hm:may W (l.getD k default)=false):dN W l (k+1)=dN W l k:=by
 unfold dN;rw [Bc (d:=default) h,aTc,aTp,aT0,aSu,aR0 (by rw [hm];decide),aSu]
theorem alh (W:ah) (l:List aL):∀ k,(dN W l k).length≤k
 | 0=>by simp [dN]
 | k+1=>by
  have bF:=alh W l k;by_cases h:k<l.length
  ·cases hm:may W (l.getD k default) with
   | true=>rw [Y_ h hm,aRX];have:(nJ (l.getD k default)).length≤1:=(by unfold nJ;(repeat' split)<;>simp);omega
   | false=>rw [Y9 h hm];omega
  ·have:dN W l (k+1)=dN W l k:=by unfold dN;rw [aSh (by omega),aSh (by omega)]
   rw [this];omega
def ep (W:ah) (l:List aL) (k:Nat):List dj:=(l.take k).flatMap λ o=>if may W o=true then nL o else []
theorem Zc {W:ah} {l:List aL} {k:Nat} (h:k<l.length) (hm:may W (l.getD k default)=true):ep W l (k+1)=ep W l k++nL (l.getD k default):=by
 unfold ep;rw [Bc (d:=default) h,aTc,aTp,aT0,aSu,aR5 hm]
theorem Zb {W:ah} {l:List aL} {k:Nat} (h:k<l.length) (hm:may W (l.getD k default)=false):ep W l (k+1)=ep W l k:=by
 unfold ep;rw [Bc (d:=default) h,aTc,aTp,aT0,aSu,aR0 (by rw [hm];decide),aSu]
theorem alj (W:ah) (l:List aL):∀ k,(ep W l k).length≤k
 | 0=>by simp [ep]
 | k+1=>by
  have bF:=alj W l k;by_cases h:k<l.length
  ·cases hm:may W (l.getD k default) with
   | true=>rw [Zc h hm,aRX];have:(nL (l.getD k default)).length≤1:=(by unfold nL;(repeat' split)<;>simp);omega
   | false=>rw [Zb h hm];omega
  ·have:ep W l (k+1)=ep W l k:=by unfold ep;rw [aSh (by omega),aSh (by omega)]
   rw [this];omega
def eT (W:ah) (l:List aL) (k:Nat):List ck:=(l.take k).flatMap λ o=>if may W o=true then nK o else []
theorem Za {W:ah} {l:List aL} {k:Nat} (h:k<l.length) (hm:may W (l.getD k default)=true):eT W l (k+1)=eT W l k++nK (l.getD k default):=by
 unfold eT;rw [Bc (d:=default) h,aTc,aTp,aT0,aSu,aR5 hm]
theorem Y' {W:ah} {l:List aL} {k:Nat} (h:k<l.length) (hm:may W (l.getD k default)=false):eT W l (k+1)=eT W l k:=by
 unfold eT;rw [Bc (d:=default) h,aTc,aTp,aT0,aSu,aR0 (by rw [hm];decide),aSu]
theorem ali (W:ah) (l:List aL):∀ k,(eT W l k).length≤k
 | 0=>by simp [eT]
 | k+1=>by
  have bF:=ali W l k;by_cases h:k<l.length
  ·cases hm:may W (l.getD k default) with
   | true=>rw [Za h hm,aRX];have:(nK (l.getD k default)).length≤1:=(by unfold nK;(repeat' split)<;>simp);omega
   | false=>rw [Y' h hm];omega
  ·have:eT W l (k+1)=eT W l k:=by unfold eT;rw [aSh (by omega),aSh (by omega)]
   rw [this];omega
theorem alk (W:ah) (l:List aL) (k:Nat):(dN W l k).length≤k∧(ep W l k).length≤k∧(eT W l k).length≤k:=⟨alh W l k,alj W l k,ali W l k⟩
theorem alm (A:Option Addr) (c:Nat) (l:List aL) (rp:ah.bZ) (W:ah) (w:World) (aB:aL.rep.aJ 48 w A c l) (bN:ah.Has w rp W):
  Calls prog 60 #[.slice A l.length c, .agg ((ah.cells rp W).toArray)] w (λ e w'=>∃ gY bX cq c1 c0 c2,((hC l≠0∧e= .returned (.tuple #[.slice none 0 0, .slice none 0 0, .slice none 0 0, .int .i64 (hC l)]))∨(hC l=0∧W.bp≠0∧e= .returned (.tuple #[.slice none 0 0, .slice none 0 0, .slice none 0 0, .int .i64 W.bp]))∨(hC l=0∧W.bp=0∧e= .returned (.tuple #[.slice gY (dN W l l.length).length bX, .slice cq (ep W l l.length).length c1, .slice c0 (eT W l l.length).length c2, .int .i64 0])∧di.rep.aF 223 16 w' w.heap.size (τ.ag gY) gY bX (dN W l l.length)∧dj.rep.aF 225 24 w' w.heap.size (τ.ag cq) cq c1 (ep W l l.length)∧ck.rep.aF 178 40 w' w.heap.size (τ.ag c0) c0 c2 (eT W l l.length)))∧Ext w w'):=by
 have oT:=aB.dU;refine cd (n:=82) func60 Z Z Z ?_;refine aj<|cw Z Z Z Z λ cI bJ a7 dY ab=> ?_;have:=a7.size;have bk:=γ (Ext.bI w) a7;have ed:=ab.lt;refine va Z<|va Z<|va Z<|va Z<|ai<|az<|aj<|vm Z<|ca UR Z Z ((Yh _ _ l _ (aB.keep bk)).mono ?_);rintro e er ⟨rfl,cD⟩;refine ⟨_,Z, ?_⟩;have:=cD.size;have bK:=γ bk cD;refine va Z<|ai<|aj<|vm Z<|J (bne Z Z)<|ai<| ?_;refine ey Z (λ kM=> ?_) (λ kM=> ?_)
 ·refine aj<|vm Z<|va Z<|va Z<|va Z<|va Z<|ai<|rt<|bO<|a8 (.tmp Z (.tmp Z (.tmp Z (.tmp Z .nil))))<| ?_;exact ⟨none,0,none,0,none,0, .inl ⟨kM,Z⟩,bK⟩
 ·obtain ⟨awu,_⟩:=Ik (by simpa using kM);refine bt<|az<|aj<| ?_;have ab:=ab.later cD;refine J (ak Z (ab.all cL bU))<|ca G_ Z Z ((Ch rp W _ (bN.keep bK)).mono ?_);rintro e Bk ⟨rfl,dm⟩;refine ⟨_,Z, ?_⟩;have:=dm.size;have m_:=γ bK dm;refine va Z<|ai<|aj<|vm Z<|J (bne Z Z)<|ai<| ?_;refine ey Z (λ ir=> ?_) (λ ir=> ?_)
  ·refine aj<|vm Z<|va Z<|va Z<|va Z<|va Z<|ai<|rt<|bO<|a8 (.tmp Z (.tmp Z (.tmp Z (.tmp Z .nil))))<| ?_;exact ⟨none,0,none,0,none,0, .inr (.inl ⟨by simpa using kM,ir,rfl⟩),m_⟩
  ·have bB:=Good.A8 (by simpa using ir);have E7:=bB.eg;have Qz:=bB.kr;refine bt<|aj<|Yc Z λ wh r8 l7 ayN abq=> ?_;have:=l7.size;have jk:=γ m_ l7;have aku:=abq.lt;refine va Z<|ai<|az<|aj<|J (au j5 Z)<| ?_;have ab:=ab.later (γ dm l7);refine J (ak Z (ab.one lT Z))<|J (cm underlying26 Z)<|vm Z<|ai<|bS<| ?_;refine fk (λ cn cl a1=>∃ k:Nat,cl= [(0, .slice A l.length c),(3, .pointer (some ⟨bJ,0,none⟩)),(4, .slice none 0 0),(5, .slice none 0 0),(6, .slice none 0 0),(7, .int .i64 0),(10, .map (some r8)),(30, .slice rp.T W.ao.length rp.t),(31, .int .i64 (W.ao.length:Int)),(32, .int .i64 (k:Int))]∧cn=W.ao.length - k∧Ext w a1∧aP a1 bJ (ah.cells rp W) 28 (0,0)∧pz a1 r8 (xN W k)∧(k≤W.ao.length)) _ _ ⟨0,Z,Z,jk,ab,abq,by omega⟩ (.cons Z (.cons Z (.cons Z (.cons Z (.cons Z (.cons Z (.cons Z (.cons Z (.cons Z (.cons (b2 Z (by first | omega | rfl | (simp<;>omega))) .nil)))))))))) ?_;rintro lB aHg Bl ⟨k,rfl,rfl,ke,ab,gS,av⟩;have:=ke.size;have aBP:=ab.lt;have MG:=gS.lt;refine aj<|J (blt Z Z)<|ai<|az<| ?_;refine en Z (λ avl=> ?_) (λ avl=> ?_)
   ·refine bt<|az<|bS<|aj<|J (b_ k underlying26 kk Z Z ((bN.T.keep ke).bP (bb k)) Z (by omega))<|J (ak Z (τ.aJ.hq jD ((bN.T.keep ke).cB (bb k)) (dn (l:=W.ao) (u:=default) (by omega)) yM kk))<|al Z Kq Z Z λ Bn acy df ai8 wF=> ?_;have:=df.size;have pb:=γ ke df;have aBT:=wF.lt;refine st (new:= [.int .i64 ((W.ao.getD k default).id), .int .i64 ((W.ao.getD k default).owner), .int .i64 ((W.ao.getD k default).kind), .int .i64 ((W.ao.getD k default).spot.x), .int .i64 ((W.ao.getD k default).spot.y), .int .i64 ((W.ao.getD k default).c7), .int .i64 ((W.ao.getD k default).load)]) Z Z wF Z kk Z Z Z λ Bo uw wF=> ?_;have:=uw.size;have kZ:=Ext.mod pb uw bs;refine ai<|rg<|vm Z<|J (au G' Z)<|J (ak Z (wF.one ba Z))<|J (au EH Z)<|J (ak Z (wF.one ba Z))<| ?_;have gS:=gS.later df;have gS:=gS.mod uw aN;refine mu underlying167 underlying3 gS (aAV bB (by omega)) Z Z Z λ Nb p5 gS=> ?_;have:=p5.size;have x6:=Ext.mod kZ p5 bs;refine nl<|bY<|aV<|rg<|J (bad Z Z (bH (by omega)))<|vm Z<|nl<| ?_;have bc:xN W (k+1)=xN W k++ [((W.ao.getD k default).id,(W.ao.getD k default).owner)]:=aAT (by omega);have ab:=ab.later df;have ab:=ab.mod uw aN;have ab:=ab.mod p5 aN;exact c' _ _ ⟨k+1,Z,Z,x6,ab,(by rw [bc];exact gS),by omega⟩ (by omega) (.cons Z (.cons Z (.cons Z (.cons Z (.cons Z (.cons Z (.cons Z (.cons Z (.cons Z (.cons (b2 Z (by first | omega | rfl | (simp<;>omega))) .nil))))))))))
   ·refine dK<|dJ<|ei<|dI<|aV<|aj<|al Z asF Z Z λ Dy sD l9 ayS zK=> ?_;have:=l9.size;have qj:=γ ke l9;have aPf:=zK.lt;refine ai<|az<|aj<|vm Z<|J (cm underlying44 Z)<|vm Z<|ai<|bS<| ?_;have lU:k=W.ao.length:=by omega
    subst lU;have ab:=ab.later l9;have gS:=gS.later l9;refine fk (λ cn cl a1=>∃ j:Nat,∃ gY:Option Addr,∃ bX:Nat,∃ cq:Option Addr,∃ c1:Nat,∃ c0:Option Addr,∃ c2:Nat,cl= [(3, .pointer (some ⟨bJ,0,none⟩)),(4, .slice none 0 0),(5, .slice none 0 0),(6, .slice none 0 0),(7, .int .i64 0),(10, .map (some r8)),(13, .pointer (some ⟨sD,0,none⟩)),(42, .slice A l.length c),(43, .int .i64 (l.length:Int)),(44, .int .i64 (j:Int))]∧cn=l.length - j∧Ext w a1∧aP a1 bJ (ah.cells rp W) 28 (0,0)∧pz a1 r8 (xN W W.ao.length)∧aP a1 sD [.slice gY ((dN W l j).length) bX, .slice cq ((ep W l j).length) c1, .slice c0 ((eT W l j).length) c2] 169 (0,0)∧di.rep.aF 223 16 a1 w.heap.size (τ.ag gY) gY bX (dN W l j)∧dj.rep.aF 225 24 a1 w.heap.size (τ.ag cq) cq c1 (ep W l j)∧ck.rep.aF 178 40 a1 w.heap.size (τ.ag c0) c0 c2 (eT W l j)∧(j≤l.length)∧(∀ q∈τ.ag gY,q=bJ→False)∧(∀ q∈τ.ag gY,q=r8→False)∧(∀ q∈τ.ag gY,q=sD→False)∧(∀ q∈τ.ag cq,q=bJ→False)∧(∀ q∈τ.ag cq,q=r8→False)∧(∀ q∈τ.ag cq,q=sD→False)∧(∀ q∈τ.ag cq,q∈τ.ag gY→False)∧(∀ q∈τ.ag c0,q=bJ→False)∧(∀ q∈τ.ag c0,q=r8→False)∧(∀ q∈τ.ag c0,q=sD→False)∧(∀ q∈τ.ag c0,q∈τ.ag gY→False)∧(∀ q∈τ.ag c0,q∈τ.ag cq→False)) _ _ ⟨0,none,0,none,0,none,0,Z,Z,qj,ab,gS,zK,(τ.aF.nil _),(τ.aF.nil _),(τ.aF.nil _),by omega,(λ q I Φ=>by (simp [τ.ag] at I)),(λ q I Φ=>by (simp [τ.ag] at I)),(λ q I Φ=>by (simp [τ.ag] at I)),(λ q I Φ=>by (simp [τ.ag] at I)),(λ q I Φ=>by (simp [τ.ag] at I)),(λ q I Φ=>by (simp [τ.ag] at I)),(λ q I Φ=>by (simp [τ.ag] at I)),(λ q I Φ=>by (simp [τ.ag] at I)),(λ q I Φ=>by (simp [τ.ag] at I)),(λ q I Φ=>by (simp [τ.ag] at I)),(λ q I Φ=>by (simp [τ.ag] at I)),(λ q I Φ=>by (simp [τ.ag] at I))⟩ (.cons Z (.cons Z (.cons Z (.cons Z (.cons Z (.cons Z (.cons Z (.cons Z (.cons Z (.cons (b2 Z (by first | omega | rfl | (simp<;>omega))) .nil)))))))))) ?_;rintro nG aHr Nh ⟨j,gY,bX,cq,c1,c0,c2,rfl,rfl,qk,ab,gS,bn,jx,jy,jz,ay,G3,G4,Aj,xd,nr,rv,tV,n4,n5,Cp,Ak,Pf⟩;have:=qk.size;have akz:=ab.lt;have Ry:=gS.lt;have akA:=bn.lt;have Se:=λ q I=>(jx.lt q I).2;have r9:=λ q I=>(jy.lt q I).2;have M7:=λ q I=>(jz.lt q I).2;have sP:=alk W l j;refine aj<|J (blt Z Z)<|ai<|az<| ?_;refine en Z (λ Wi=> ?_) (λ Wi=> ?_)
    ·have AN:=aL.mF aB _ (jd (d:=default) (show j<l.length by omega));refine bt<|az<|bS<|aj<|J (b_ j underlying44 fC Z Z ((aB.keep qk).bP (bb j)) Z (by omega))<|J (ak Z (τ.aJ.hq K6 ((aB.keep qk).cB (bb j)) (dn (l:=l) (u:=default) (by omega)) iZ fC))<|al Z Pq Z Z λ I1 apy iD ayX nU=> ?_;have:=iD.size;have BC:=γ qk iD;have aB4:=nU.lt;refine st (new:= [.int .i64 ((l.getD j default).by_), .int .i64 ((l.getD j default).kind), .int .i64 ((l.getD j default).aQ), .int .i64 ((l.getD j default).spot.x), .int .i64 ((l.getD j default).spot.y), .int .i64 ((l.getD j default).what)]) Z Z nU Z fC Z Z Z λ amr iw nU=> ?_;have:=iw.size;have zE:=Ext.mod BC iw bs;refine ai<|aj<|vm Z<|J (au Cq Z)<|J (ak Z (nU.one ba Z))<| ?_;have gS:=gS.later iD;have gS:=gS.mod iw aN;refine J (lk underlying167 underlying3 PE gS Z Z)<|vm Z<|J (ex Z Z)<|J (ex Z Z)<|va Z<|va Z<|ai<|az<|aj<|J (au pL Z)<|J (ak Z (nU.one ba Z))<|J (beq Z Z)<|ai<| ?_;refine jA Z (λ vG=> ?_) (λ vG=> ?_)
     ·refine rd [(1,0),(3,0),(5,0)] [0,1,2,3,4,5,6,7,8,9] (by kernel_rfl) (by kernel_rfl) ?_;refine aq Z (λ _=>au tW Z)<|bA Z (λ _ x=>ak Z ((nU.later x).one ba Z))<|aq Z (λ _=>au tW Z)<|bA Z (λ _ x=>ak Z ((nU.later x).one ba Z))<|aq Z (λ _=>au rC Z)<| ?_;have ab:=ab.later iD;have ab:=ab.mod iw aN;refine bA Z (λ _ x=>ak Z ((ab.later x).one vy Z))<|aq Z (λ _=>cm underlying25 Z)<|aq Z (λ _=>blt Z Z)<|aq Z (λ _=>ew Z)<|aq Z (λ _=>ew Z)<|fn λ F0 dW=> ?_;have:=dW.size;have kg:=γ zE dW;refine aV<|aj<|vm Z<|vm Z<|aT Z Z Z Z (λ hc=>aH Z) Z<|aT Z Z Z Z (λ hc=>au tW Z) Z<| ?_;have nU:=nU.later dW;refine aT Z Z Z Z (λ hc=>ak (gt hc Z) (nU.one ba Z)) Z<|aT Z Z Z Z (λ hc=>beq (gt hc Z) (gt hc Z)) Z<|J (dH Z Z Z Z)<|ai<| ?_;refine dE Z (λ ER=> ?_) (λ ER=> ?_)
      ·have rV:may W (l.getD j default)=true:=by unfold may;rw [aR5 vG];rw [← ER]
       refine rg<|J (ak Z (nU.all iZ fC))<| ?_;have bn:=bn.later iD;have bn:=bn.mod iw aN;have bn:=bn.later dW;have jx:=jx.later iD;have jx:=jx.mod iw (bD Se);have jx:=jx.later dW;have jy:=jy.later iD;have jy:=jy.mod iw (bD r9);have jy:=jy.later dW;have jz:=jz.later iD;have jz:=jz.mod iw (bD M7);have jz:=jz.later dW;have auM:∀ q∈(sD::(τ.ag gY++(τ.ag cq++τ.ag c0))),w.heap.size≤q:=by
        intro q I;simp only [aSc,aR6] at I;rcases I with I | I | I | I
        ·omega
        ·exact (jx.lt q I).1
        ·exact (jy.lt q I).1
        ·exact (jz.lt q I).1
       refine ca aeq Z Z ((acm (l.getD j default) w sD _ _ _ _ _ _ _ _ _ _ kg AN bn jx jy jz (λ q I Φ=>by (exact Aj q I Φ)) (λ q I Φ=>by (exact rv q I Φ)) (λ q I Φ=>by (exact Cp q I Φ)) (λ q I Φ=>by (exact tV q I Φ)) (λ q I Φ=>by (exact Ak q I Φ)) (λ q I Φ=>by (exact Pf q I Φ)) (by omega) (by omega) (by omega)).mono ?_);rintro e ZJ ⟨anm,aqr,ann,aqs,ano,aqt,rfl,DX,ab3,ab4,ab5,ar9,asa,asb,arZ,ar0,ar1,afj,afk,afl,uz⟩;refine ⟨_,Z, ?_⟩;have:=uz.size;have Gk:=Ext.mod kg uz auM;have aQG:=λ q I=>(ab3.lt q I).2;have aD5:=λ q I=>(ab4.lt q I).2;have aQH:=λ q I=>(ab5.lt q I).2;refine nl<|bY<|aV<|rg<|J (bad Z Z (bH (by omega)))<|vm Z<|nl<| ?_;have bl:dN W l (j+1)=dN W l j++nJ (l.getD j default):=Y_ (by omega) rV;have cH:ep W l (j+1)=ep W l j++nL (l.getD j default):=Zc (by omega) rV;have iq:eT W l (j+1)=eT W l j++nK (l.getD j default):=Za (by omega) rV;have ab:=ab.later dW;have aAm:bJ∉(sD::(τ.ag gY++(τ.ag cq++τ.ag c0))):=by
        intro I;simp only [aSc,aR6] at I;rcases I with I | I | I | I
        ·omega
        ·exact (λ q (κ:q∈τ.ag gY) (aa:q=bJ)=>show False by (exact G3 q κ aa)) _ I Z
        ·exact (λ q (κ:q∈τ.ag cq) (aa:q=bJ)=>show False by (exact xd q κ aa)) _ I Z
        ·exact (λ q (κ:q∈τ.ag c0) (aa:q=bJ)=>show False by (exact n4 q κ aa)) _ I Z
       have ab:=ab.mod uz aAm;have gS:=gS.later dW;have aAn:r8∉(sD::(τ.ag gY++(τ.ag cq++τ.ag c0))):=by
        intro I;simp only [aSc,aR6] at I;rcases I with I | I | I | I
        ·omega
        ·exact (λ q (κ:q∈τ.ag gY) (aa:q=r8)=>show False by (exact G4 q κ aa)) _ I Z
        ·exact (λ q (κ:q∈τ.ag cq) (aa:q=r8)=>show False by (exact nr q κ aa)) _ I Z
        ·exact (λ q (κ:q∈τ.ag c0) (aa:q=r8)=>show False by (exact n5 q κ aa)) _ I Z
       have gS:=gS.mod uz aAn;exact c' _ _ ⟨j+1,anm,aqr,ann,aqs,ano,aqt,Z,Z,Gk,ab,gS,(by rw [bl,cH,iq];exact DX),(by rw [bl];exact ab3),(by rw [cH];exact ab4),(by rw [iq];exact ab5),by omega,(λ q I Φ=>by (exact aR4 (afj q I) (λ LO=>by (exact G3 q LO Φ)) (λ LO=>by omega))),(λ q I Φ=>by (exact aR4 (afj q I) (λ LP=>by (exact G4 q LP Φ)) (λ LP=>by omega))),(λ q I Φ=>by (exact ar9 q I Φ)),(λ q I Φ=>by (exact aR4 (afk q I) (λ CZ=>by (exact xd q CZ Φ)) (λ CZ=>by omega))),(λ q I Φ=>by (exact aR4 (afk q I) (λ LQ=>by (exact nr q LQ Φ)) (λ LQ=>by omega))),(λ q I Φ=>by (exact asa q I Φ)),(λ q I Φ=>by (exact arZ q I Φ)),(λ q I Φ=>by (exact aR4 (afl q I) (λ LR=>by (exact n4 q LR Φ)) (λ LR=>by omega))),(λ q I Φ=>by (exact aR4 (afl q I) (λ LS=>by (exact n5 q LS Φ)) (λ LS=>by omega))),(λ q I Φ=>by (exact asb q I Φ)),(λ q I Φ=>by (exact ar0 q I Φ)),(λ q I Φ=>by (exact ar1 q I Φ))⟩ (by omega) (.cons Z (.cons Z (.cons Z (.cons Z (.cons Z (.cons Z (.cons Z (.cons Z (.cons Z (.cons (b2 Z (by first | omega | rfl | (simp<;>omega))) .nil))))))))))
      ·have rV:may W (l.getD j default)=false:=by unfold may;rw [aR5 vG];rw [← ER]
       refine fo<|bY<|aV<|rg<|J (bad Z Z (bH (by omega)))<|vm Z<|nl<| ?_;have bl:dN W l (j+1)=dN W l j:=Y9 (by omega) rV;have cH:ep W l (j+1)=ep W l j:=Zb (by omega) rV;have iq:eT W l (j+1)=eT W l j:=Y' (by omega) rV;have ab:=ab.later dW;have gS:=gS.later dW;have bn:=bn.later iD;have bn:=bn.mod iw aN;have bn:=bn.later dW;have jx:=jx.later iD;have jx:=jx.mod iw (bD Se);have jx:=jx.later dW;have jy:=jy.later iD;have jy:=jy.mod iw (bD r9);have jy:=jy.later dW;have jz:=jz.later iD;have jz:=jz.mod iw (bD M7);have jz:=jz.later dW;exact c' _ _ ⟨j+1,gY,bX,cq,c1,c0,c2,Z,Z,kg,ab,gS,(by rw [bl,cH,iq];exact bn),(by rw [bl];exact jx),(by rw [cH];exact jy),(by rw [iq];exact jz),by omega,(λ q I Φ=>by (exact G3 q I Φ)),(λ q I Φ=>by (exact G4 q I Φ)),(λ q I Φ=>by (exact Aj q I Φ)),(λ q I Φ=>by (exact xd q I Φ)),(λ q I Φ=>by (exact nr q I Φ)),(λ q I Φ=>by (exact rv q I Φ)),(λ q I Φ=>by (exact tV q I Φ)),(λ q I Φ=>by (exact n4 q I Φ)),(λ q I Φ=>by (exact n5 q I Φ)),(λ q I Φ=>by (exact Cp q I Φ)),(λ q I Φ=>by (exact Ak q I Φ)),(λ q I Φ=>by (exact Pf q I Φ))⟩ (by omega) (.cons Z (.cons Z (.cons Z (.cons Z (.cons Z (.cons Z (.cons Z (.cons Z (.cons Z (.cons (b2 Z (by first | omega | rfl | (simp<;>omega))) .nil))))))))))
     ·refine bt<|aj<|vm Z<|vm Z<|aT Z Z Z Z (λ hc=>aH Z) Z<|aT Z Z Z Z (λ hc=>au tW Z) Z<|aT Z Z Z Z (λ hc=>ak (gt hc Z) (nU.one ba Z)) Z<|aT Z Z Z Z (λ hc=>beq (gt hc Z) (gt hc Z)) Z<|J (dH Z Z Z Z)<|ai<| ?_;refine dE Z (λ EP=> ?_) (λ EP=> ?_)
      ·have rV:may W (l.getD j default)=true:=by unfold may;rw [aR0 vG];rw [← EP]
       refine rg<|J (ak Z (nU.all iZ fC))<| ?_;have bn:=bn.later iD;have bn:=bn.mod iw aN;have jx:=jx.later iD;have jx:=jx.mod iw (bD Se);have jy:=jy.later iD;have jy:=jy.mod iw (bD r9);have jz:=jz.later iD;have jz:=jz.mod iw (bD M7);have auL:∀ q∈(sD::(τ.ag gY++(τ.ag cq++τ.ag c0))),w.heap.size≤q:=by
        intro q I;simp only [aSc,aR6] at I;rcases I with I | I | I | I
        ·omega
        ·exact (jx.lt q I).1
        ·exact (jy.lt q I).1
        ·exact (jz.lt q I).1
       refine ca aeq Z Z ((acm (l.getD j default) w sD _ _ _ _ _ _ _ _ _ _ zE AN bn jx jy jz (λ q I Φ=>by (exact Aj q I Φ)) (λ q I Φ=>by (exact rv q I Φ)) (λ q I Φ=>by (exact Cp q I Φ)) (λ q I Φ=>by (exact tV q I Φ)) (λ q I Φ=>by (exact Ak q I Φ)) (λ q I Φ=>by (exact Pf q I Φ)) (by omega) (by omega) (by omega)).mono ?_);rintro e FQ ⟨am0,ap7,am1,ap8,am2,ap9,rfl,anr,abJ,abK,abL,ar6,ar7,ar8,arW,arX,arY,afc,afd,afe,uo⟩;refine ⟨_,Z, ?_⟩;have:=uo.size;have Nv:=Ext.mod zE uo auL;have aDR:=λ q I=>(abJ.lt q I).2;have aP9:=λ q I=>(abK.lt q I).2;have aQa:=λ q I=>(abL.lt q I).2;refine nl<|bY<|aV<|rg<|J (bad Z Z (bH (by omega)))<|vm Z<|nl<| ?_;have bl:dN W l (j+1)=dN W l j++nJ (l.getD j default):=Y_ (by omega) rV;have cH:ep W l (j+1)=ep W l j++nL (l.getD j default):=Zc (by omega) rV;have iq:eT W l (j+1)=eT W l j++nK (l.getD j default):=Za (by omega) rV;have ab:=ab.later iD;have ab:=ab.mod iw aN;have aAk:bJ∉(sD::(τ.ag gY++(τ.ag cq++τ.ag c0))):=by
        intro I;simp only [aSc,aR6] at I;rcases I with I | I | I | I
        ·omega
        ·exact (λ q (κ:q∈τ.ag gY) (aa:q=bJ)=>show False by (exact G3 q κ aa)) _ I Z
        ·exact (λ q (κ:q∈τ.ag cq) (aa:q=bJ)=>show False by (exact xd q κ aa)) _ I Z
        ·exact (λ q (κ:q∈τ.ag c0) (aa:q=bJ)=>show False by (exact n4 q κ aa)) _ I Z
       have ab:=ab.mod uo aAk;have aAl:r8∉(sD::(τ.ag gY++(τ.ag cq++τ.ag c0))):=by
        intro I;simp only [aSc,aR6] at I;rcases I with I | I | I | I
        ·omega
        ·exact (λ q (κ:q∈τ.ag gY) (aa:q=r8)=>show False by (exact G4 q κ aa)) _ I Z
        ·exact (λ q (κ:q∈τ.ag cq) (aa:q=r8)=>show False by (exact nr q κ aa)) _ I Z
        ·exact (λ q (κ:q∈τ.ag c0) (aa:q=r8)=>show False by (exact n5 q κ aa)) _ I Z
       have gS:=gS.mod uo aAl;exact c' _ _ ⟨j+1,am0,ap7,am1,ap8,am2,ap9,Z,Z,Nv,ab,gS,(by rw [bl,cH,iq];exact anr),(by rw [bl];exact abJ),(by rw [cH];exact abK),(by rw [iq];exact abL),by omega,(λ q I Φ=>by (exact aR4 (afc q I) (λ ahI=>by (exact G3 q ahI Φ)) (λ ahI=>by omega))),(λ q I Φ=>by (exact aR4 (afc q I) (λ ahJ=>by (exact G4 q ahJ Φ)) (λ ahJ=>by omega))),(λ q I Φ=>by (exact ar6 q I Φ)),(λ q I Φ=>by (exact aR4 (afd q I) (λ C0=>by (exact xd q C0 Φ)) (λ C0=>by omega))),(λ q I Φ=>by (exact aR4 (afd q I) (λ LU=>by (exact nr q LU Φ)) (λ LU=>by omega))),(λ q I Φ=>by (exact ar7 q I Φ)),(λ q I Φ=>by (exact arW q I Φ)),(λ q I Φ=>by (exact aR4 (afe q I) (λ LV=>by (exact n4 q LV Φ)) (λ LV=>by omega))),(λ q I Φ=>by (exact aR4 (afe q I) (λ LW=>by (exact n5 q LW Φ)) (λ LW=>by omega))),(λ q I Φ=>by (exact ar8 q I Φ)),(λ q I Φ=>by (exact arX q I Φ)),(λ q I Φ=>by (exact arY q I Φ))⟩ (by omega) (.cons Z (.cons Z (.cons Z (.cons Z (.cons Z (.cons Z (.cons Z (.cons Z (.cons Z (.cons (b2 Z (by first | omega | rfl | (simp<;>omega))) .nil))))))))))
      ·have rV:may W (l.getD j default)=false:=by unfold may;rw [aR0 vG];rw [← EP]
       refine fo<|bY<|aV<|rg<|J (bad Z Z (bH (by omega)))<|vm Z<|nl<| ?_;have bl:dN W l (j+1)=dN W l j:=Y9 (by omega) rV;have cH:ep W l (j+1)=ep W l j:=Zb (by omega) rV;have iq:eT W l (j+1)=eT W l j:=Y' (by omega) rV;have ab:=ab.later iD;have ab:=ab.mod iw aN;have bn:=bn.later iD;have bn:=bn.mod iw aN;have jx:=jx.later iD;have jx:=jx.mod iw (bD Se);have jy:=jy.later iD;have jy:=jy.mod iw (bD r9);have jz:=jz.later iD;have jz:=jz.mod iw (bD M7);exact c' _ _ ⟨j+1,gY,bX,cq,c1,c0,c2,Z,Z,zE,ab,gS,(by rw [bl,cH,iq];exact bn),(by rw [bl];exact jx),(by rw [cH];exact jy),(by rw [iq];exact jz),by omega,(λ q I Φ=>by (exact G3 q I Φ)),(λ q I Φ=>by (exact G4 q I Φ)),(λ q I Φ=>by (exact Aj q I Φ)),(λ q I Φ=>by (exact xd q I Φ)),(λ q I Φ=>by (exact nr q I Φ)),(λ q I Φ=>by (exact rv q I Φ)),(λ q I Φ=>by (exact tV q I Φ)),(λ q I Φ=>by (exact n4 q I Φ)),(λ q I Φ=>by (exact n5 q I Φ)),(λ q I Φ=>by (exact Cp q I Φ)),(λ q I Φ=>by (exact Ak q I Φ)),(λ q I Φ=>by (exact Pf q I Φ))⟩ (by omega) (.cons Z (.cons Z (.cons Z (.cons Z (.cons Z (.cons Z (.cons Z (.cons Z (.cons Z (.cons (b2 Z (by first | omega | rfl | (simp<;>omega))) .nil))))))))))
    ·refine dK<|dJ<|ei<|dI<|aV<|az<| ?_;refine rd [(1,0),(3,0),(5,0)] [0,1,2,3,4,5,6,7,8,9] (by kernel_rfl) (by kernel_rfl) ?_;refine aq Z (λ _=>au UO Z)<|bA Z (λ _ x=>ak Z ((bn.later x).one aen Z))<|aq Z (λ _=>au UP Z)<|bA Z (λ _ x=>ak Z ((bn.later x).one aep Z))<|aq Z (λ _=>au EE Z)<|bA Z (λ _ x=>ak Z ((bn.later x).one Pr Z))<|aq Z (λ _=>ew Z)<|aq Z (λ _=>ew Z)<|aq Z (λ _=>ew Z)<|aq Z (λ _=>ew Z)<|fn λ aQV Nr=> ?_;have:=Nr.size;have aFP:=γ qk Nr;refine aV<|rt<|a8 (.tmp Z (.tmp Z (.tmp Z (.tmp Z .nil))))<| ?_;have jx:=jx.later Nr;have jy:=jy.later Nr;have jz:=jz.later Nr;have atP:j=l.length:=by omega
     subst atP;exact ⟨gY,bX,cq,c1,c0,c2, .inr (.inr ⟨by simpa using kM,by simpa using ir,rfl,jx,jy,jz⟩),aFP⟩
end
section
def oj (W:ah) (l:List aL):Int:=if hC l≠0 then hC l else W.bp
theorem MV {W:ah} {l:List aL} (h:oj W l=0):hC l=0∧W.bp=0:=by
 unfold oj at h;split at h
 ·rename_i κ;exact absurd h κ
 ·rename_i κ;exact ⟨by simpa using κ,h⟩
theorem aC6 {W:ah} {l:List aL} (h:oj W l=0):l.length≤100:=(Ik (MV h).1).1
theorem aC7 (A:Option Addr) (c:Nat) (l:List aL) (rp:ah.bZ) (W:ah) (w:World) (aB:aL.rep.aJ 48 w A c l) (bN:ah.Has w rp W) (h:oj W l≠0):Calls prog 60 #[.slice A l.length c, .agg (ah.cells rp W).toArray] w (λ e w'=>e= .returned (.tuple #[.slice none 0 0, .slice none 0 0, .slice none 0 0, .int .i64 (oj W l)])∧Ext w w'):=by
 refine (alm A c l rp W w aB bN).mono λ e w' he=> ?_;obtain ⟨gY,bX,cq,c1,c0,c2,(⟨κ,aa⟩ | ⟨κ,aa,aw⟩ | ⟨κ,aa,_⟩),hx⟩:=he
 ·exact ⟨by rw [aa];unfold oj;rw [aR5 κ],hx⟩
 ·exact ⟨by rw [aw];unfold oj;rw [aR0 (by simpa using κ)],hx⟩
 ·exact absurd (by unfold oj;rw [aR0 (by simpa using κ)];exact aa) h
theorem aln (A:Option Addr) (c:Nat) (l:List aL) (rp:ah.bZ) (W:ah) (w:World) (aB:aL.rep.aJ 48 w A c l) (bN:ah.Has w rp W) (h:oj W l=0):Calls prog 60 #[.slice A l.length c, .agg (ah.cells rp W).toArray] w (λ e w'=>∃ gY bX cq c1 c0 c2,e= .returned (.tuple #[.slice gY (dN W l l.length).length bX, .slice cq (ep W l l.length).length c1, .slice c0 (eT W l l.length).length c2, .int .i64 0])∧di.rep.aF 223 16 w' w.heap.size (τ.ag gY) gY bX (dN W l l.length)∧dj.rep.aF 225 24 w' w.heap.size (τ.ag cq) cq c1 (ep W l l.length)∧ck.rep.aF 178 40 w' w.heap.size (τ.ag c0) c0 c2 (eT W l l.length)∧Ext w w'):=by
 obtain ⟨cf,a2⟩:=MV h;refine (alm A c l rp W w aB bN).mono λ e w' he=> ?_;obtain ⟨gY,bX,cq,c1,c0,c2,(⟨κ,aa⟩ | ⟨κ,aa,aw⟩ | ⟨κ,aa,aw,a6,bL,ch⟩),hx⟩:=he
 ·exact absurd cf κ
 ·exact absurd a2 aa
 ·exact ⟨gY,bX,cq,c1,c0,c2,aw,a6,bL,ch,hx⟩
end
section
section
variable {F:List Nat} {P:Program} {ops:Array Oper} {Q:Exit→Act→World→Prop} {aZ:Nat→Nat}
def u9 (F:List Nat) (P:Program) (ops:Array Oper) (w0:World) (o:Oper) (v:Value) (a:Act):Prop :=
  (Region.wanted o (yielded ops a.tmps)=true∧∀ w,Mod F w0 w→zg P w v ((execOp a.eval o).run P w))∨
  (Region.wanted o (yielded ops a.tmps)=false∧v=undef)
theorem u9.of_same {w0:World} {o:Oper} {v:Value} {a a':Act} (h:u9 F P ops w0 o v a) (he:execOp a'.eval o=execOp a.eval o) (hw:Region.wanted o (yielded ops a'.tmps)=Region.wanted o (yielded ops a.tmps)):u9 F P ops w0 o v a':=by
  unfold u9 at *;rw [he,hw];exact h
theorem u9.on {w0 aW:World} {o:Oper} {v:Value} {a:Act} (h:u9 F P ops w0 o v a) (hx:Mod F w0 aW):u9 F P ops aW o v a :=
  h.imp (λ ⟨κ,aa⟩=>⟨κ,λ w hw=>aa w (hx.trans hw)⟩) id
theorem Yields.aB7 {w0:World} {o:Oper} {v:Value} {a:Act} (h:Yields P ops o v a):u9 F P ops w0 o v a :=
  h.imp (λ ⟨κ,aa⟩=>⟨κ,λ w _=>by rw [aa w];exact ⟨rfl,rfl⟩⟩) id
def aDm (F:List Nat) (P:Program) (ops:Array Oper) (Q:Exit→Act→World→Prop) (aZ:Nat→Nat) (i:Nat) (K:Act→World→Prop) (a:Act) (w0:World):Prop :=
  ∃ o,ops[i]? =some o∧
    ((aZ i≤1∧∃ v,u9 F P ops w0 o v a∧K (a.put o.dst v) w0)∨
     (1<aZ i∧∀ w,Ext w0 w→wpOp P ops Q i (λ a' w'=>(aZ i=2→Mod F w0 w')∧K a' w') a w))
def J6 (F:List Nat) (P:Program) (ops:Array Oper) (Q:Exit→Act→World→Prop) (aZ:Nat→Nat):Nat→Array Bool→Act→World→Prop
  | 0,l,a,w0=>Region.ready .any ops l= []∧∀ w,Ext w0 w→Q .normal a w
  | f+1,l,a,w0=>(Region.ready .any ops l= []→∀ w,Ext w0 w→Q .normal a w)∧∀ i∈Region.ready .any ops l,aDm F P ops Q aZ i (J6 F P ops Q aZ f (l.setIfInBounds i true)) a w0
theorem GM:∀ (f:Nat) (l:Array Bool) (a:Act) (w0:World),J6 F P ops Q aZ f l a w0→∀ w,Ext w0 w→wpAny P .any ops Q f l a w
  | 0,_,_,_,h,w,hw=>⟨h.1,h.2 w hw⟩
  | f+1,l,a,w0,h,w,hw=>⟨λ aG=>h.1 aG w hw,λ i ar=>by
      obtain ⟨o,b7,aa⟩:=h.2 i ar;rcases aa with ⟨_,v,I,av⟩ | ⟨_,aa⟩
      · unfold wpOp
        simp only [b7];rcases I with ⟨nC,I⟩ | ⟨nC,rfl⟩
        · rw [aR5 nC]
          refine .inl ?_;have I:=I w (Mod.bz hw);unfold Oper.wp;generalize (execOp a.eval o).run P w=r at *
          cases r with
          | ok n w' =>
            cases n<;>simp only [zg] at I<;>simp only [Oper.upon]
            case value u=>obtain ⟨rfl,rfl⟩:=I;exact GM f _ _ _ av _ hw
            case skip=>obtain ⟨rfl,rfl⟩:=I;exact GM f _ _ _ av _ hw
            case enter f' args=>obtain ⟨rfl,hc⟩:=I;exact hc.mono λ e lH ⟨he,hx⟩=>by subst he;exact GM f _ _ _ av _ (hw.wa hx)
          | halt x w'=>simp only [zg] at I
        · rw [aR0 (by rw [nC];decide)]
          exact GM f _ _ _ av _ hw
      · exact aT7 (λ a' w' aw=>GM f _ _ _ aw.2 _ (Ext.bI w')) (aa w hw)⟩
theorem aeZ {i:Nat} {dx:Oper} {v:Value} (ar:ops[i]? =some dx) (av:aZ i≤1) (nB:∀ (j:Nat) (o:Oper) cs b,ops[j]? =some o→o.op≠ .select cs b)
    (ia:∀ c a w,¬ Q (.panic c) a w) (aC:World→Act→Prop) (mr:∀ w0 a,aC w0 a→u9 F P ops w0 dx v a)
    (z2:∀ w0 a a',aC w0 a→execOp a'.eval dx=execOp a.eval dx→Region.wanted dx (yielded ops a'.tmps)=Region.wanted dx (yielded ops a.tmps)→aC w0 a')
    (z3:∀ w0 aW a,Mod F w0 aW→aC w0 a→aC aW a) (R:Nat→Bool) (xB:Array Bool)
    (hR:∀ j de,ops[j]? =some de→j≠i→(∀ e∈de.after,Region.binds .any e=true→R e.on=true)→R j=true)
    (bg:(∀ w0 aW a,aC w0 a→aC aW a)∨∀ j,R j=true→3≤aZ j→xB.getD j true=true):
    ∀ (f:Nat) (l:Array Bool) (a:Act) (w0:World),(∀ j,l.getD j false=true→R j=true)→(∀ j,xB.getD j true=true→l.getD j true=true)→
      (∀ j de,ops[j]? =some de→j≠i→l.getD j true=false→(∀ e∈de.after,Region.binds .any e=true→e.on≠i)→dx.apart ops de=true)→
      i∈Region.ready .any ops l→aC w0 a→J6 F P ops Q aZ f (l.setIfInBounds i true) (a.put dx.dst v) w0→J6 F P ops Q aZ (f+1) l a w0:=by
  intro f;induction f with
  | zero =>
    intro l a w0 _ _ _ hr bE H;refine ⟨λ h=>(by rw [h] at hr;cases hr),λ j ay=> ?_⟩;by_cases hQ:j=i
    · subst hQ;exact ⟨dx,ar, .inl ⟨av,v,mr _ _ bE,H⟩⟩
    · have:=aUj ay hQ
      rw [H.1] at this;cases this
  | succ f bF =>
    intro l a w0 CM CK CG hr bE H;refine ⟨λ h=>(by rw [h] at hr;cases hr),λ j ay=> ?_⟩;by_cases hQ:j=i
    · subst hQ;exact ⟨dx,ar, .inl ⟨av,v,mr _ _ bE,H⟩⟩
    · obtain ⟨de,kN,κ⟩:=H.2 j (aUj ay hQ)
      obtain ⟨xr,gG,CT,dF⟩:=aVm.1 ay;obtain rfl:gG=de:=by rw [kN] at CT;exact (aRR CT).symm
      have Lp:∀ e∈gG.after,Region.binds .any e=true→e.on≠i:=λ e he Φ heq=>by
        have κ:=dF e he Φ;have aG:=(aVm.1 hr).1;rw [heq] at κ;rcases aSU i l.size with c6 | c6
        · simp [c6] at aG κ;rw [aG] at κ;cases κ
        · simp [aSR c6] at κ
      have KZ:=CG j gG kN hQ xr Lp;obtain ⟨cf,a2,a3⟩:=aV6 KZ;have LF:∀ cs b,dx.op≠ .select cs b:=λ cs b=>nB i dx cs b ar;have xx:∀ cs b,gG.op≠ .select cs b:=λ cs b=>nB j gG cs b kN;have keep:∀ aW a u,aC aW a→aC aW (a.put gG.dst u):=λ aW a u bE=>z2 _ _ _ bE (aUt dx LF a gG.dst u a3) (aUE dx a gG.dst u a3);have Cy:R j=true:=hR j gG kN hQ λ e he Φ=>CM _ (dF e he Φ);have CN:∀ k,(l.setIfInBounds j true).getD k false=true→R k=true:=λ k av=>by
        by_cases gU:j=k
        · rw [← gU];exact Cy
        · rw [aT1 false gU] at av;exact CM k av
      have CL:∀ k,xB.getD k true=true→(l.setIfInBounds j true).getD k true=true:=λ k av=>by
        by_cases gU:j=k
        · subst gU
          rcases aSU j l.size with c6 | c6
          · simp [c6]
          · simp [aSR c6]
        · rw [aT1 true gU];exact CK k av
      have CH:∀ k ok,ops[k]? =some ok→k≠i→(l.setIfInBounds j true).getD k true=false→
          (∀ e∈ok.after,Region.binds .any e=true→e.on≠i)→dx.apart ops ok=true:=λ k ok av pX CW jO=>by
        refine CG k ok av pX ?_ jO;by_cases gU:j=k
        · subst gU;exact xr
        · rw [aT1 true gU] at CW;exact CW
      have CV:=aUj hr (aUx hQ);rcases κ with ⟨xt,u,I,hK⟩ | ⟨xt,κ⟩
      · refine ⟨gG,kN, .inl ⟨xt,u,I.of_same (aUt gG xx a dx.dst v cf).symm (aUE gG a dx.dst v cf).symm, ?_⟩⟩
        refine bF _ _ _ CN CL CH CV (keep _ _ _ bE) ?_;rw [aTm _ _ hQ,← aTR a v u a2];exact hK
      · refine ⟨gG,kN, .inr ⟨xt,λ w hw=> ?_⟩⟩
        refine aT7 (λ a' w' aw=>⟨aw.2.1, ?_⟩) (ZM (aC:=aC w0) kN cf a2 xx ia (keep w0) (λ a d bE=>z2 _ _ _ bE Z Z) bE (κ w hw));have LK:aC w' a':=by
          rcases aSU (aZ j) 3 with bC | uf
          · exact z3 _ _ _ (aw.2.1 (by omega)) aw.1
          · rcases bg with bg | bg
            · exact bg _ _ _ aw.1
            · have:=CK j (bg j Cy uf);rw [xr] at this;cases this
        refine bF _ _ _ CN CL CH CV LK ?_;rw [aTm _ _ hQ];exact aw.2.2
def I6 (F:List Nat) (P:Program) (ops:Array Oper) (Q:Exit→Act→World→Prop) (aZ:Nat→Nat):List Nat→Act→World→Prop
  | [],a,w0=>∀ w,Ext w0 w→Q .normal a w
  | i::r,a,w0=>∃ o,ops[i]? =some o∧
      ((aZ i=0∧∃ v,u9 F P ops w0 o v a∧I6 F P ops Q aZ r (a.put o.dst v) w0)∨
       (aZ i=1∧∃ v,Yields P ops o v a∧I6 F P ops Q aZ r (a.put o.dst v) w0)∨
       (1<aZ i∧∀ w,Ext w0 w→wpOp P ops Q i (λ a' w'=>(aZ i=2→Mod F w0 w')∧I6 F P ops Q aZ r a' w') a w))
theorem OG (hs:Region.noSelect ops=true) (ia:∀ c a w,¬ Q (.panic c) a w):∀ (r:List Nat) (l:Array Bool) (a:Act) (w0:World),l.size=ops.size→kl ops aZ r l=true→I6 F P ops Q aZ r a w0→J6 F P ops Q aZ r.length l a w0
  | [],l,a,w0,_,bg,h=>⟨by simpa [kl] using bg,h⟩
  | i::r,l,a,w0,aB,bg,h=>by
    obtain ⟨o,b7,h⟩:=h;have nB:=aUv hs;rcases h with ⟨av,v,I,hK⟩ | ⟨av,v,I,hK⟩ | ⟨av,h⟩
    · simp only [kl,av,aRY] at bg
      obtain ⟨⟨⟨hf,hr⟩,Φ⟩,bg⟩:=bg;obtain ⟨R,r1,r2,uB⟩:=OO aB Φ;exact aeZ b7 (by omega) nB ia (λ w0 a=>u9 F P ops w0 o v a) (λ _ _ h=>h) (λ _ _ _ h he hw=>h.of_same he hw) (λ _ _ _ hx h=>h.on hx) R l r1 (.inr uB) _ _ _ _ r2 (λ _ h=>h) (aTy b7 hf) (by simpa using hr) I
        (OG hs ia r _ _ _ (by simpa using aB) bg hK)
    · simp only [kl,av,aRY] at bg
      obtain ⟨⟨hf,hr⟩,bg⟩:=bg;exact aeZ b7 (by omega) nB ia (λ _ a=>Yields P ops o v a) (λ _ _ h=>Yields.aB7 h) (λ _ _ _ h he hw=>h.of_same he hw) (λ _ _ _ _ h=>h) (λ _=>true) l (λ _ _ _ _ _=>Z) (.inl λ _ _ _ h=>h) _ _ _ _ (λ _ _=>Z) (λ _ h=>h) (aTy b7 hf) (by simpa using hr) I
        (OG hs ia r _ _ _ (by simpa using aB) bg hK)
    · obtain ⟨k,gl⟩:∃ k,aZ i=k+2:=⟨aZ i - 2,by omega⟩
      simp only [kl,gl,aRY,aSQ] at bg;obtain ⟨hr,bg⟩:=bg;refine ⟨λ aG=>(by rw [hr] at aG;cases aG),λ j ay=> ?_⟩;rw [hr] at ay;obtain rfl:j=i:=by simpa using ay
      exact ⟨o,b7, .inr ⟨av,λ w hw=>aT7 (λ a' w' aw=>⟨aw.1,OG hs ia r _ _ _ (by simpa using aB) bg aw.2⟩) (h w hw)⟩⟩
theorem aCh {id:Nat} {a:Act} {w:World} (b5:List Nat) (hm:P.follows .mixedOrders=true) (bg:(Region.noSelect ops && (b5.length == ops.size) && kl ops aZ b5 (Array.replicate ops.size false))=true)
    (h:I6 F P ops (hj (Q .normal)) aZ b5 a w):(Code.region id ops true).wp P Q a w:=by
  simp only [aRY,aSQ] at bg;obtain ⟨⟨hs,aB⟩,bg⟩:=bg;refine wp_mono (aVw hm (Q:=hj (Q .normal)) ?_) (λ e a w I=>by cases e<;>first | exact I | exact I.elim);have:=OG (P:=P) hs (Q:=hj (Q .normal)) (λ _ _ _ h=>h) b5 (Array.replicate ops.size false) a w (by simp) bg h;rw [aB] at this;exact GM _ _ _ _ this _ (aSm _ w).drew
end
section
variable {F:List Nat} {P:Program} {n:Nat} {E cU:List (Nat×Value)} {a:Act} {w w' w0 aW:World} {Q:Exit→Act→World→Prop} {ops:Array Oper} {v:Value} {aZ:Nat→Nat}
variable {d:Option Nat} {ty:TypeId} {pos:String} {af:Array Edge} {g:Option (Nat×Bool)} {x y z:Operand} {t:TypeId} {rest:List Oper} {b5:List Nat} {i:Nat}
def yg (F:List Nat) (P:Program) (n:Nat) (ops:Array Oper) (Q:Exit→Act→World→Prop) (aZ:Nat→Nat) (b5:List Nat) (E:List (Nat×Value)) (w0:World):Prop:=∀ a,et n E a→I6 F P ops (hj (Q .normal)) aZ b5 a w0
theorem RE {id:Nat} (F:List Nat) (mO:List (Nat×Nat)) (b5:List Nat) (hm:P.follows .mixedOrders=true) (bg:(Region.noSelect ops && (b5.length == ops.size) && kl ops (oY mO) b5 (Array.replicate ops.size false))=true)
    (h:yg F P n ops Q (oY mO) b5 E w):W P n (.region id ops true) Q E w:=λ a ha=>aCh b5 hm bg (h a ha)
theorem PO (h:∀ w,Ext w0 w→N n Q E w):yg F P n ops Q aZ [] E w0:=λ a ha w hw=>h w hw a ha
theorem yO {d:Nat} {op:Op} (ar:ops[i]? =some ⟨some d,op,ty,pos,af,none⟩) (av:aZ i=0) (hr:∀ w,Mod F w0 w→cY P E ⟨some d,op,ty,pos,af,none⟩ w v w) (hd:Nat.blt d n=true)
    (h:yg F P n ops Q aZ b5 ((d,v)::E) w0):yg F P n ops Q aZ (i::b5) E w0:=λ a ha =>
  ⟨_,ar, .inl ⟨av,v, .inl ⟨Bq rfl,λ w hw=>by rw [hr w hw n a ha];exact ⟨rfl,rfl⟩⟩,h _ (ha.put hd v)⟩⟩
theorem jB {d:Nat} {op:Op} (ar:ops[i]? =some ⟨some d,op,ty,pos,af,none⟩) (av:aZ i=1) (hr:∀ w,cY P E ⟨some d,op,ty,pos,af,none⟩ w v w) (hd:Nat.blt d n=true)
    (h:yg F P n ops Q aZ b5 ((d,v)::E) w0):yg F P n ops Q aZ (i::b5) E w0:=λ a ha =>
  ⟨_,ar, .inr (.inl ⟨av,v, .inl ⟨Bq rfl,λ w=>hr w n a ha⟩,h _ (ha.put hd v)⟩)⟩
theorem EK {o:Oper} (aO:o.guard=none) (ar:ops[i]? =some o) (av:aZ i=2) (h:∀ w,Ext w0 w→Ep P n ops o E w λ cU w'=>Mod F w0 w'∧yg F P n ops Q aZ b5 cU w'):yg F P n ops Q aZ (i::b5) E w0:=λ a ha =>
  ⟨_,ar, .inr (.inr ⟨by omega,λ w hw=>IC aO ar (h w hw) (λ cU w' a' av rK=>⟨λ _=>av.1,av.2 a' rK⟩) ha⟩)⟩
theorem Vm {o:Oper} (aO:o.guard=none) (ar:ops[i]? =some o) (av:aZ i=3) (h:∀ w,Ext w0 w→Ep P n ops o E w λ cU w'=>yg F P n ops Q aZ b5 cU w'):yg F P n ops Q aZ (i::b5) E w0:=λ a ha =>
  ⟨_,ar, .inr (.inr ⟨by omega,λ w hw=>IC aO ar (h w hw) (λ cU w' a' av rK=>⟨λ aa=>by omega,av a' rK⟩) ha⟩)⟩
end
end
end Go.Proofs.YtlikikpgmmkjbaaGreat
