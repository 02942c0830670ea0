import Derived.Test.YtmeeljmapailnaaGreatOrds
set_option linter.unusedVariables false
set_option linter.unusedSimpArgs false
set_option maxRecDepth 100000
set_option maxHeartbeats 4000000
open Go.RowKit
namespace Go.Proofs.YtmeeljmapailnaaGreat
open Tryz
abbrev aTj:=@List.flatMap_append
abbrev aTu:=@List.flatMap_cons
abbrev aT9:=@List.flatMap_nil
abbrev aWp:=@Option.map_eq_none_iff
section
theorem aps:eX prog c_.rep 101 201 16:=eX.lV (z:=c_.zero) (k:=2) underlying101 c_.info rfl rfl (by decide) c_.jq
theorem apt:eX prog dm.rep 102 203 24:=eX.lV (z:=dm.zero) (k:=3) underlying102 dm.info rfl rfl (by decide) dm.jq
theorem Ui:eX prog cd.rep 103 153 40:=eX.lV (z:=cd.zero) (k:=5) underlying103 cd.info rfl rfl (by decide) cd.jq
def nV (o:aL):List c_:=if o.kind=1 then [⟨o.aR,o.what⟩] else []
def nX (o:aL):List dm:=if o.kind=2 then [⟨o.aR,⟨o.spot.x,o.spot.y⟩⟩] else []
def nW (o:aL):List cd:=if o.kind=3 then [⟨1,o.aR,⟨o.spot.x,o.spot.y⟩,0⟩] else if o.kind=4 then [⟨2,o.aR,⟨0,0⟩,0⟩] else if o.kind=5 then [⟨3,o.by_,⟨0,0⟩,o.what⟩] else []
theorem acD (o:aL) (w0:World) (um:Nat) (A B C:Option Addr) (a b c:Nat) (tH:List c_) (yq:List dm) (zZ:List cd) (w:World) (jh:Ext w0 w) (eh:o.ok) (hS:aP w um [.slice A tH.length a, .slice B yq.length b, .slice C zZ.length c] 143 (0,0)) (hA:c_.rep.aF 201 16 w w0.heap.size (τ.ah A) A a tH) (bf:dm.rep.aF 203 24 w w0.heap.size (τ.ah B) B b yq) (d_:cd.rep.aF 153 40 w w0.heap.size (τ.ah C) C c zZ) (vN:∀ q∈τ.ah A,q=um→False) (vO:∀ q∈τ.ah B,q=um→False) (s3:∀ q∈τ.ah C,q=um→False) (Db:∀ q∈τ.ah B,q∈τ.ah A→False) (zk:∀ q∈τ.ah C,q∈τ.ah A→False) (zl:∀ q∈τ.ah C,q∈τ.ah B→False) (B4:tH.length≤100) (ss:yq.length≤100) (qk:zZ.length≤100):
  Calls prog 57 #[.pointer (some ⟨um,0,none⟩), .agg #[.int .i64 o.by_, .int .i64 o.kind, .int .i64 o.aR, .int .i64 o.spot.x, .int .i64 o.spot.y, .int .i64 o.what]] w (λ e w'=>∃ bK a' rz rJ ET b5,e= .returned (.tuple #[])∧aP w' um [.slice bK (tH++nV o).length a', .slice rz (yq++nX o).length rJ, .slice ET (zZ++nW o).length b5] 143 (0,0)∧c_.rep.aF 201 16 w' w0.heap.size (τ.ah bK) bK a' (tH++nV o)∧dm.rep.aF 203 24 w' w0.heap.size (τ.ah rz) rz rJ (yq++nX o)∧cd.rep.aF 153 40 w' w0.heap.size (τ.ah ET) ET b5 (zZ++nW o)∧(∀ q∈τ.ah bK,q=um→False)∧(∀ q∈τ.ah rz,q=um→False)∧(∀ q∈τ.ah ET,q=um→False)∧(∀ q∈τ.ah rz,q∈τ.ah bK→False)∧(∀ q∈τ.ah ET,q∈τ.ah bK→False)∧(∀ q∈τ.ah ET,q∈τ.ah rz→False)∧(∀ q∈τ.ah bK,q∈τ.ah A∨w.heap.size≤q)∧(∀ q∈τ.ah rz,q∈τ.ah B∨w.heap.size≤q)∧(∀ q∈τ.ah ET,q∈τ.ah C∨w.heap.size≤q)∧Mod (um::(τ.ah A++(τ.ah B++τ.ah C))) w w'):=by
 have aLr:=jh.size;have ld:=hS.lt;have NL:=λ q I=>(hA.lt q I).2;have SA:=λ q I=>(bf.lt q I).2;have amk:=λ q I=>(d_.lt q I).2;have aLU:∀ q∈τ.ah A,w0.heap.size≤q:=λ q I=>(hA.lt q I).1;have X8:∀ q∈τ.ah B,w0.heap.size≤q:=λ q I=>(bf.lt q I).1;have aLV:∀ q∈τ.ah C,w0.heap.size≤q:=λ q I=>(d_.lt q I).1;refine cl (n:=84) func57 Z Z Z ?_;refine aj<|cA Z Z Z Z λ cC bF a8 ef aa=> ?_;have:=a8.size;have bj:=(Mod.bN (um::(τ.ah A++(τ.ah B++τ.ah C))) w).trans (Mod.bE a8);have ei:=aa.lt;refine ai<|aj<|J (av p1 Z)<|J (ao Z (aa.one bc Z))<|ai<|bL<|aj<|J (beq Z Z)<|va Z<|ai<| ?_;refine ka Z (λ qW=> ?_) (λ qW=> ?_)
 ·refine rd [(4,0),(6,0),(8,0),(10,2),(11,3),(14,3)] [0,1,2,3,4,5,6,7,8,9,10,11,12,13,14] (by kernel_rfl) (by kernel_rfl) ?_;refine au Z (λ _=>aK Z)<|au Z (λ _=>aK Z)<|au Z (λ _=>b0 Z)<|au Z (λ _=>av Vl Z)<| ?_;have hS:=hS.later a8;refine bJ Z (λ _ x=>ao Z ((hS.later x).one aeE Z))<|au Z (λ _=>av Df Z)<|bJ Z (λ _ x=>ao Z ((aa.later x).one bc Z))<|au Z (λ _=>av Dh Z)<|bJ Z (λ _ x=>ao Z ((aa.later x).one bc Z))<|rT (v:= .agg #[.int .i64 o.aR, .int .i64 o.what]) Z Z (λ _=>cI Z (by kernel_rfl)) Z<|gv Z Z Z λ ve bl Q hK=>cX (e:= 201) (cs:= [.int .i64 o.aR, .int .i64 o.what]) Z (λ _=>by kernel_rfl) Z λ wP zh dv MQ ib=>hK _ _ ⟨γ bl dv, ?_⟩;have:=bl.size;have kn:=bj.trans (Mod.bE bl);have:=dv.size;have kU:=kn.trans (Mod.bE dv);have ak1:=ib.lt;have hA:=hA.later (γ a8 (γ bl dv));refine eK Z Z Z λ GH vn Q hK=>ap aps τ.dI (hA.later vn) ((aP.gS (R:=c_.rep) (by_:=16) (q:=(⟨o.aR,o.what⟩:c_)) ib ⟨Z,(by obtain ⟨Gr,py,mo,nU,oH,ql⟩:=eh;exact ⟨mo,ql⟩)⟩ (by decide)).keep vn) Z Z (by simp only [aR0,aR6];omega) (by simp only [aR0,aR6];omega) (by have:=vn.size;omega) Z λ Al EL UW lS uf H4 aAp=>hK _ _ ?_;have:=vn.size;have sJ:=kU.trans (Mod.bE vn);have:=lS.size;have lJ:=sJ.md lS (λ q I=> .inl (aSa _ (aSb.2 (.inl I))));have aEf:=λ q I=>(uf.lt q I).2;have:=lS.size;refine au Z (λ _=>b0 Z)<|au Z (λ _=>av Vl Z)<| ?_;have hS:=hS.later (γ bl (γ dv vn));have hS:=hS.mod lS (λ I=>vN _ I rfl);refine eK Z Z Z λ yC hY Q hK=>st (new:= [.slice EL ((tH++ [(⟨o.aR,o.what⟩:c_)]).length) UW, .slice B yq.length b, .slice C zZ.length c]) Z Z (hS.later hY) Z asX Z Z Z λ GI lC hS=>hK _ _ ?_;have:=hY.size;have l4:=lJ.trans (Mod.bE hY);have:=lC.size;have rr:=l4.md lC (λ q I=> .inl (by rw [aRT.1 I];exact aSj));refine fn λ wQ eP=> ?_;have:=eP.size;have mC:=rr.trans (Mod.bE eP);refine bY<|ne<|bd .nil<| ?_;have hS:=hS.later eP;have uf:=uf.later hY;have uf:=uf.mod lC (λ q I h=>by have Φ:=aRT.1 h;exfalso;(exact aR9 (H4 q I) (λ aiR=>by (exact vN q aiR Φ)) (λ aiR=>by omega)));have uf:=uf.later eP;have bf:=bf.later (γ a8 (γ bl (γ dv vn)));have bf:=bf.mod lS (λ q I h=>Db q I h);have bf:=bf.later hY;have bf:=bf.mod lC (λ q I h=>by have Φ:=aRT.1 h;exfalso;(exact vO q I Φ));have bf:=bf.later eP;have d_:=d_.later (γ a8 (γ bl (γ dv vn)));have d_:=d_.mod lS (λ q I h=>zk q I h);have d_:=d_.later hY;have d_:=d_.mod lC (λ q I h=>by have Φ:=aRT.1 h;exfalso;(exact s3 q I Φ));have d_:=d_.later eP;have aZ:nV o= [(⟨o.aR,o.what⟩:c_)]:=by unfold nV;simp [*]
  have bh:nX o= []:=by unfold nX;simp [*]
  have cF:nW o= []:=by unfold nW;simp [*]
  rw [aZ,bh,cF];simp only [aSz];exact ⟨EL,UW,B,b,C,c,Z,hS,uf,bf,d_,(λ q I Φ=>by (exact aR9 (H4 q I) (λ aiS=>by (exact vN q aiS Φ)) (λ aiS=>by omega))),(λ q I Φ=>by (exact vO q I Φ)),(λ q I Φ=>by (exact s3 q I Φ)),(λ q I Φ=>by (exact aR9 (H4 q Φ) (λ aiT=>by (exact Db q I aiT)) (λ aiT=>by (have:=SA q I;omega)))),(λ q I Φ=>by (exact aR9 (H4 q Φ) (λ Rs=>by (exact zk q I Rs)) (λ Rs=>by (have:=amk q I;omega)))),(λ q I Φ=>by (exact zl q I Φ)),(λ q I=>(H4 q I).imp id λ h=>by omega),(λ q I=> .inl I),(λ q I=> .inl I),mC⟩
 ·refine aj<|J (beq Z Z)<|va Z<|ai<| ?_;refine ka Z (λ LB=> ?_) (λ LB=> ?_)
  ·refine rd [(4,0),(6,0),(8,0),(10,2),(11,3),(14,3)] [0,1,2,3,4,5,6,7,8,9,10,11,12,13,14] (by kernel_rfl) (by kernel_rfl) ?_;refine au Z (λ _=>aK Z)<|au Z (λ _=>aK Z)<|au Z (λ _=>b0 Z)<|au Z (λ _=>av Vm Z)<| ?_;have hS:=hS.later a8;refine bJ Z (λ _ x=>ao Z ((hS.later x).one aeF Z))<|au Z (λ _=>av Df Z)<|bJ Z (λ _ x=>ao Z ((aa.later x).one bc Z))<|au Z (λ _=>av Dg Z)<|bJ Z (λ _ x=>ao Z ((aa.later x).par [.int .i64 o.spot.x, .int .i64 o.spot.y] cm bU Z))<|rT (v:= .agg #[.int .i64 o.aR, .int .i64 o.spot.x, .int .i64 o.spot.y]) Z Z (λ _=>cI Z (by kernel_rfl)) Z<|gv Z Z Z λ An hN Q hK=>cX (e:= 203) (cs:= [.int .i64 o.aR, .int .i64 o.spot.x, .int .i64 o.spot.y]) Z (λ _=>by kernel_rfl) Z λ SZ A5 eR ajw vx=>hK _ _ ⟨γ hN eR, ?_⟩;have:=hN.size;have oa:=bj.trans (Mod.bE hN);have:=eR.size;have Cx:=oa.trans (Mod.bE eR);have Ja:=vx.lt;have bf:=bf.later (γ a8 (γ hN eR));refine eK Z Z Z λ sB ek Q hK=>ap apt τ.dI (bf.later ek) ((aP.gS (R:=dm.rep) (by_:=24) (q:=(⟨o.aR,⟨o.spot.x,o.spot.y⟩⟩:dm)) vx ⟨Z,(by obtain ⟨Gr,py,mo,nU,oH,ql⟩:=eh;exact ⟨mo,nU,oH⟩)⟩ (by decide)).keep ek) Z Z (by simp only [aR0,aR6];omega) (by simp only [aR0,aR6];omega) (by have:=ek.size;omega) Z λ amU aaP adm zR C0 Lg aN2=>hK _ _ ?_;have:=ek.size;have i_:=Cx.trans (Mod.bE ek);have:=zR.size;have Oj:=i_.md zR (λ q I=> .inl (aSa _ (aSb.2 (.inr (aSb.2 (.inl I))))));have Ag:=λ q I=>(C0.lt q I).2;have:=zR.size;refine au Z (λ _=>b0 Z)<|au Z (λ _=>av Vm Z)<| ?_;have hS:=hS.later (γ hN (γ eR ek));have hS:=hS.mod zR (λ I=>vO _ I rfl);refine eK Z Z Z λ NV rp Q hK=>st (new:= [.slice A tH.length a, .slice aaP ((yq++ [(⟨o.aR,⟨o.spot.x,o.spot.y⟩⟩:dm)]).length) adm, .slice C zZ.length c]) Z Z (hS.later rp) Z asY Z Z Z λ S3 tA hS=>hK _ _ ?_;have:=rp.size;have yP:=Oj.trans (Mod.bE rp);have:=tA.size;have Cz:=yP.md tA (λ q I=> .inl (by rw [aRT.1 I];exact aSj));refine fn λ S5 dC=> ?_;have:=dC.size;have tW:=Cz.trans (Mod.bE dC);refine bY<|ne<|bd .nil<| ?_;have hS:=hS.later dC;have hA:=hA.later (γ a8 (γ hN (γ eR ek)));have hA:=hA.mod zR (λ q I h=>Db q h I);have hA:=hA.later rp;have hA:=hA.mod tA (λ q I h=>by have Φ:=aRT.1 h;exfalso;(exact vN q I Φ));have hA:=hA.later dC;have C0:=C0.later rp;have C0:=C0.mod tA (λ q I h=>by have Φ:=aRT.1 h;exfalso;(exact aR9 (Lg q I) (λ MM=>by (exact vO q MM Φ)) (λ MM=>by omega)));have C0:=C0.later dC;have d_:=d_.later (γ a8 (γ hN (γ eR ek)));have d_:=d_.mod zR (λ q I h=>zl q I h);have d_:=d_.later rp;have d_:=d_.mod tA (λ q I h=>by have Φ:=aRT.1 h;exfalso;(exact s3 q I Φ));have d_:=d_.later dC;have aZ:nV o= []:=by unfold nV;simp [*]
   have bh:nX o= [(⟨o.aR,⟨o.spot.x,o.spot.y⟩⟩:dm)]:=by unfold nX;simp [*]
   have cF:nW o= []:=by unfold nW;simp [*]
   rw [aZ,bh,cF];simp only [aSz];exact ⟨A,a,aaP,adm,C,c,Z,hS,hA,C0,d_,(λ q I Φ=>by (exact vN q I Φ)),(λ q I Φ=>by (exact aR9 (Lg q I) (λ ai5=>by (exact vO q ai5 Φ)) (λ ai5=>by omega))),(λ q I Φ=>by (exact s3 q I Φ)),(λ q I Φ=>by (exact aR9 (Lg q I) (λ DU=>by (exact Db q DU Φ)) (λ DU=>by (have:=NL q Φ;omega)))),(λ q I Φ=>by (exact zk q I Φ)),(λ q I Φ=>by (exact aR9 (Lg q Φ) (λ MN=>by (exact zl q I MN)) (λ MN=>by (have:=amk q I;omega)))),(λ q I=> .inl I),(λ q I=>(Lg q I).imp id λ h=>by omega),(λ q I=> .inl I),tW⟩
  ·refine aj<|J (beq Z Z)<|va Z<|ai<| ?_;refine ka Z (λ uE=> ?_) (λ uE=> ?_)
   ·refine rd [(4,0),(6,0),(8,0),(10,2),(11,3),(14,3)] [0,1,2,3,4,5,6,7,8,9,10,11,12,13,14] (by kernel_rfl) (by kernel_rfl) ?_;refine au Z (λ _=>aK Z)<|au Z (λ _=>aK Z)<|au Z (λ _=>b0 Z)<|au Z (λ _=>av FA Z)<| ?_;have hS:=hS.later a8;refine bJ Z (λ _ x=>ao Z ((hS.later x).one P4 Z))<|au Z (λ _=>av Df Z)<|bJ Z (λ _ x=>ao Z ((aa.later x).one bc Z))<|au Z (λ _=>av Dg Z)<|bJ Z (λ _ x=>ao Z ((aa.later x).par [.int .i64 o.spot.x, .int .i64 o.spot.y] cm bU Z))<|rT (v:= .agg #[.int .i64 1, .int .i64 o.aR, .int .i64 o.spot.x, .int .i64 o.spot.y, .int .i64 0]) Z Z (λ _=>cI Z (by kernel_rfl)) Z<|gv Z Z Z λ S7 gW Q hK=>cX (e:= 153) (cs:= [.int .i64 1, .int .i64 o.aR, .int .i64 o.spot.x, .int .i64 o.spot.y, .int .i64 0]) Z (λ _=>by kernel_rfl) Z λ JG aIS sH aM0 OI=>hK _ _ ⟨γ gW sH, ?_⟩;have:=gW.size;have Aw:=bj.trans (Mod.bE gW);have:=sH.size;have lr:=Aw.trans (Mod.bE sH);have aPz:=OI.lt;have d_:=d_.later (γ a8 (γ gW sH));refine eK Z Z Z λ aab EF Q hK=>ap Ui τ.dI (d_.later EF) ((aP.gS (R:=cd.rep) (by_:=40) (q:=(⟨1,o.aR,⟨o.spot.x,o.spot.y⟩,0⟩:cd)) OI ⟨Z,(by obtain ⟨Gr,py,mo,nU,oH,ql⟩:=eh;exact ⟨bM.2 (by (try dsimp only);omega),mo,nU,oH,bM.2 (by (try dsimp only);omega)⟩)⟩ (by decide)).keep EF) Z Z (by simp only [aR0,aR6];omega) (by simp only [aR0,aR6];omega) (by have:=EF.size;omega) Z λ aac aaR adn yb CU Lb aNC=>hK _ _ ?_;have:=EF.size;have G_:=lr.trans (Mod.bE EF);have:=yb.size;have CD:=G_.md yb (λ q I=> .inl (aSa _ (aSb.2 (.inr (aSb.2 (.inr I))))));have ZO:=λ q I=>(CU.lt q I).2;have:=yb.size;refine au Z (λ _=>b0 Z)<|au Z (λ _=>av FA Z)<| ?_;have hS:=hS.later (γ gW (γ sH EF));have hS:=hS.mod yb (λ I=>s3 _ I rfl);refine eK Z Z Z λ aEU kk Q hK=>st (new:= [.slice A tH.length a, .slice B yq.length b, .slice aaR ((zZ++ [(⟨1,o.aR,⟨o.spot.x,o.spot.y⟩,0⟩:cd)]).length) adn]) Z Z (hS.later kk) Z Vn Z Z Z λ aEV uN hS=>hK _ _ ?_;have:=kk.size;have aan:=CD.trans (Mod.bE kk);have:=uN.size;have aao:=aan.md uN (λ q I=> .inl (by rw [aRT.1 I];exact aSj));refine fn λ Z2 vk=> ?_;have:=vk.size;have G3:=aao.trans (Mod.bE vk);refine bY<|ne<|bd .nil<| ?_;have hS:=hS.later vk;have hA:=hA.later (γ a8 (γ gW (γ sH EF)));have hA:=hA.mod yb (λ q I h=>zk q h I);have hA:=hA.later kk;have hA:=hA.mod uN (λ q I h=>by have Φ:=aRT.1 h;exfalso;(exact vN q I Φ));have hA:=hA.later vk;have bf:=bf.later (γ a8 (γ gW (γ sH EF)));have bf:=bf.mod yb (λ q I h=>zl q h I);have bf:=bf.later kk;have bf:=bf.mod uN (λ q I h=>by have Φ:=aRT.1 h;exfalso;(exact vO q I Φ));have bf:=bf.later vk;have CU:=CU.later kk;have CU:=CU.mod uN (λ q I h=>by have Φ:=aRT.1 h;exfalso;(exact aR9 (Lb q I) (λ DS=>by (exact s3 q DS Φ)) (λ DS=>by omega)));have CU:=CU.later vk;have aZ:nV o= []:=by unfold nV;simp [*]
    have bh:nX o= []:=by unfold nX;simp [*]
    have cF:nW o= [(⟨1,o.aR,⟨o.spot.x,o.spot.y⟩,0⟩:cd)]:=by unfold nW;simp [*]
    rw [aZ,bh,cF];simp only [aSz];exact ⟨A,a,B,b,aaR,adn,Z,hS,hA,bf,CU,(λ q I Φ=>by (exact vN q I Φ)),(λ q I Φ=>by (exact vO q I Φ)),(λ q I Φ=>by (exact aR9 (Lb q I) (λ Mx=>by (exact s3 q Mx Φ)) (λ Mx=>by omega))),(λ q I Φ=>by (exact Db q I Φ)),(λ q I Φ=>by (exact aR9 (Lb q I) (λ My=>by (exact zk q My Φ)) (λ My=>by (have:=NL q Φ;omega)))),(λ q I Φ=>by (exact aR9 (Lb q I) (λ Mz=>by (exact zl q Mz Φ)) (λ Mz=>by (have:=SA q Φ;omega)))),(λ q I=> .inl I),(λ q I=> .inl I),(λ q I=>(Lb q I).imp id λ h=>by omega),G3⟩
   ·refine aj<|J (beq Z Z)<|va Z<|ai<| ?_;refine ka Z (λ avD=> ?_) (λ avD=> ?_)
    ·refine rd [(4,0),(6,0),(8,2),(9,3),(12,3)] [0,1,2,3,4,5,6,7,8,9,10,11,12] (by kernel_rfl) (by kernel_rfl) ?_;refine au Z (λ _=>aK Z)<|au Z (λ _=>aK Z)<|au Z (λ _=>b0 Z)<|au Z (λ _=>av FA Z)<| ?_;have hS:=hS.later a8;refine bJ Z (λ _ x=>ao Z ((hS.later x).one P4 Z))<|au Z (λ _=>av Df Z)<|bJ Z (λ _ x=>ao Z ((aa.later x).one bc Z))<|rT (v:= .agg #[.int .i64 2, .int .i64 o.aR, .int .i64 0, .int .i64 0, .int .i64 0]) Z Z (λ _=>cI Z (by kernel_rfl)) Z<|gv Z Z Z λ amL GR Q hK=>cX (e:= 153) (cs:= [.int .i64 2, .int .i64 o.aR, .int .i64 0, .int .i64 0, .int .i64 0]) Z (λ _=>by kernel_rfl) Z λ aQ0 aIh GU aMg aa1=>hK _ _ ⟨γ GR GU, ?_⟩;have:=GR.size;have N_:=bj.trans (Mod.bE GR);have:=GU.size;have aFY:=N_.trans (Mod.bE GU);have aOI:=aa1.lt;have d_:=d_.later (γ a8 (γ GR GU));refine eK Z Z Z λ amN Ez Q hK=>ap Ui τ.dI (d_.later Ez) ((aP.gS (R:=cd.rep) (by_:=40) (q:=(⟨2,o.aR,⟨0,0⟩,0⟩:cd)) aa1 ⟨Z,(by obtain ⟨Gr,py,mo,nU,oH,ql⟩:=eh;exact ⟨bM.2 (by (try dsimp only);omega),mo,bM.2 (by (try dsimp only);omega),bM.2 (by (try dsimp only);omega),bM.2 (by (try dsimp only);omega)⟩)⟩ (by decide)).keep Ez) Z Z (by simp only [aR0,aR6];omega) (by simp only [aR0,aR6];omega) (by have:=Ez.size;omega) Z λ amO aaJ adg ml CV Ld aNJ=>hK _ _ ?_;have:=Ez.size;have Ob:=aFY.trans (Mod.bE Ez);have:=ml.size;have Cv:=Ob.md ml (λ q I=> .inl (aSa _ (aSb.2 (.inr (aSb.2 (.inr I))))));have aQg:=λ q I=>(CV.lt q I).2;have:=ml.size;refine au Z (λ _=>b0 Z)<|au Z (λ _=>av FA Z)<| ?_;have hS:=hS.later (γ GR (γ GU Ez));have hS:=hS.mod ml (λ I=>s3 _ I rfl);refine eK Z Z Z λ aQ7 JO Q hK=>st (new:= [.slice A tH.length a, .slice B yq.length b, .slice aaJ ((zZ++ [(⟨2,o.aR,⟨0,0⟩,0⟩:cd)]).length) adg]) Z Z (hS.later JO) Z Vn Z Z Z λ Z5 BZ hS=>hK _ _ ?_;have:=JO.size;have aF4:=Cv.trans (Mod.bE JO);have:=BZ.size;have EH:=aF4.md BZ (λ q I=> .inl (by rw [aRT.1 I];exact aSj));refine fn λ aRa qy=> ?_;have:=qy.size;have aF7:=EH.trans (Mod.bE qy);refine bY<|ne<|bd .nil<| ?_;have hS:=hS.later qy;have hA:=hA.later (γ a8 (γ GR (γ GU Ez)));have hA:=hA.mod ml (λ q I h=>zk q h I);have hA:=hA.later JO;have hA:=hA.mod BZ (λ q I h=>by have Φ:=aRT.1 h;exfalso;(exact vN q I Φ));have hA:=hA.later qy;have bf:=bf.later (γ a8 (γ GR (γ GU Ez)));have bf:=bf.mod ml (λ q I h=>zl q h I);have bf:=bf.later JO;have bf:=bf.mod BZ (λ q I h=>by have Φ:=aRT.1 h;exfalso;(exact vO q I Φ));have bf:=bf.later qy;have CV:=CV.later JO;have CV:=CV.mod BZ (λ q I h=>by have Φ:=aRT.1 h;exfalso;(exact aR9 (Ld q I) (λ DT=>by (exact s3 q DT Φ)) (λ DT=>by omega)));have CV:=CV.later qy;have aZ:nV o= []:=by unfold nV;simp [*]
     have bh:nX o= []:=by unfold nX;simp [*]
     have cF:nW o= [(⟨2,o.aR,⟨0,0⟩,0⟩:cd)]:=by unfold nW;simp [*]
     rw [aZ,bh,cF];simp only [aSz];exact ⟨A,a,B,b,aaJ,adg,Z,hS,hA,bf,CV,(λ q I Φ=>by (exact vN q I Φ)),(λ q I Φ=>by (exact vO q I Φ)),(λ q I Φ=>by (exact aR9 (Ld q I) (λ MC=>by (exact s3 q MC Φ)) (λ MC=>by omega))),(λ q I Φ=>by (exact Db q I Φ)),(λ q I Φ=>by (exact aR9 (Ld q I) (λ MD=>by (exact zk q MD Φ)) (λ MD=>by (have:=NL q Φ;omega)))),(λ q I Φ=>by (exact aR9 (Ld q I) (λ ME=>by (exact zl q ME Φ)) (λ ME=>by (have:=SA q Φ;omega)))),(λ q I=> .inl I),(λ q I=> .inl I),(λ q I=>(Ld q I).imp id λ h=>by omega),aF7⟩
    ·refine aj<|J (beq Z Z)<|va Z<|ai<| ?_;refine ka Z (λ avK=> ?_) (λ avK=> ?_)
     ·refine rd [(4,0),(6,0),(8,0),(10,2),(11,3),(14,3)] [0,1,2,3,4,5,6,7,8,9,10,11,12,13,14] (by kernel_rfl) (by kernel_rfl) ?_;refine au Z (λ _=>aK Z)<|au Z (λ _=>aK Z)<|au Z (λ _=>b0 Z)<|au Z (λ _=>av FA Z)<| ?_;have hS:=hS.later a8;refine bJ Z (λ _ x=>ao Z ((hS.later x).one P4 Z))<|au Z (λ _=>av uz Z)<|bJ Z (λ _ x=>ao Z ((aa.later x).one bc Z))<|au Z (λ _=>av Dh Z)<|bJ Z (λ _ x=>ao Z ((aa.later x).one bc Z))<|rT (v:= .agg #[.int .i64 3, .int .i64 o.by_, .int .i64 0, .int .i64 0, .int .i64 o.what]) Z Z (λ _=>cI Z (by kernel_rfl)) Z<|gv Z Z Z λ SV GY Q hK=>cX (e:= 153) (cs:= [.int .i64 3, .int .i64 o.by_, .int .i64 0, .int .i64 0, .int .i64 o.what]) Z (λ _=>by kernel_rfl) Z λ aE5 aIq GZ aMq aa8=>hK _ _ ⟨γ GY GZ, ?_⟩;have:=GY.size;have aaw:=bj.trans (Mod.bE GY);have:=GZ.size;have aax:=aaw.trans (Mod.bE GZ);have aOU:=aa8.lt;have d_:=d_.later (γ a8 (γ GY GZ));refine eK Z Z Z λ aRi EA Q hK=>ap Ui τ.dI (d_.later EA) ((aP.gS (R:=cd.rep) (by_:=40) (q:=(⟨3,o.by_,⟨0,0⟩,o.what⟩:cd)) aa8 ⟨Z,(by obtain ⟨Gr,py,mo,nU,oH,ql⟩:=eh;exact ⟨bM.2 (by (try dsimp only);omega),Gr,bM.2 (by (try dsimp only);omega),bM.2 (by (try dsimp only);omega),ql⟩)⟩ (by decide)).keep EA) Z Z (by simp only [aR0,aR6];omega) (by simp only [aR0,aR6];omega) (by have:=EA.size;omega) Z λ aRj aaN adi IU CX Le aNR=>hK _ _ ?_;have:=EA.size;have aGe:=aax.trans (Mod.bE EA);have:=IU.size;have aGf:=aGe.md IU (λ q I=> .inl (aSa _ (aSb.2 (.inr (aSb.2 (.inr I))))));have aQn:=λ q I=>(CX.lt q I).2;have:=IU.size;refine au Z (λ _=>b0 Z)<|au Z (λ _=>av FA Z)<| ?_;have hS:=hS.later (γ GY (γ GZ EA));have hS:=hS.mod IU (λ I=>s3 _ I rfl);refine eK Z Z Z λ aRo JQ Q hK=>st (new:= [.slice A tH.length a, .slice B yq.length b, .slice aaN ((zZ++ [(⟨3,o.by_,⟨0,0⟩,o.what⟩:cd)]).length) adi]) Z Z (hS.later JQ) Z Vn Z Z Z λ aRp M4 hS=>hK _ _ ?_;have:=JQ.size;have aGj:=aGf.trans (Mod.bE JQ);have:=M4.size;have aGk:=aGj.md M4 (λ q I=> .inl (by rw [aRT.1 I];exact aSj));refine fn λ aE7 rm=> ?_;have:=rm.size;have aay:=aGk.trans (Mod.bE rm);refine bY<|ne<|bd .nil<| ?_;have hS:=hS.later rm;have hA:=hA.later (γ a8 (γ GY (γ GZ EA)));have hA:=hA.mod IU (λ q I h=>zk q h I);have hA:=hA.later JQ;have hA:=hA.mod M4 (λ q I h=>by have Φ:=aRT.1 h;exfalso;(exact vN q I Φ));have hA:=hA.later rm;have bf:=bf.later (γ a8 (γ GY (γ GZ EA)));have bf:=bf.mod IU (λ q I h=>zl q h I);have bf:=bf.later JQ;have bf:=bf.mod M4 (λ q I h=>by have Φ:=aRT.1 h;exfalso;(exact vO q I Φ));have bf:=bf.later rm;have CX:=CX.later JQ;have CX:=CX.mod M4 (λ q I h=>by have Φ:=aRT.1 h;exfalso;(exact aR9 (Le q I) (λ ain=>by (exact s3 q ain Φ)) (λ ain=>by omega)));have CX:=CX.later rm;have aZ:nV o= []:=by unfold nV;simp [*]
      have bh:nX o= []:=by unfold nX;simp [*]
      have cF:nW o= [(⟨3,o.by_,⟨0,0⟩,o.what⟩:cd)]:=by unfold nW;simp [*]
      rw [aZ,bh,cF];simp only [aSz];exact ⟨A,a,B,b,aaN,adi,Z,hS,hA,bf,CX,(λ q I Φ=>by (exact vN q I Φ)),(λ q I Φ=>by (exact vO q I Φ)),(λ q I Φ=>by (exact aR9 (Le q I) (λ aio=>by (exact s3 q aio Φ)) (λ aio=>by omega))),(λ q I Φ=>by (exact Db q I Φ)),(λ q I Φ=>by (exact aR9 (Le q I) (λ MG=>by (exact zk q MG Φ)) (λ MG=>by (have:=NL q Φ;omega)))),(λ q I Φ=>by (exact aR9 (Le q I) (λ aip=>by (exact zl q aip Φ)) (λ aip=>by (have:=SA q Φ;omega)))),(λ q I=> .inl I),(λ q I=> .inl I),(λ q I=>(Le q I).imp id λ h=>by omega),aay⟩
     ·refine fI<|bY<|ne<|bd .nil<| ?_;have hS:=hS.later a8;have hA:=hA.later a8;have bf:=bf.later a8;have d_:=d_.later a8;have aZ:nV o= []:=by unfold nV;simp [*]
      have bh:nX o= []:=by unfold nX;simp [*]
      have cF:nW o= []:=by unfold nW;simp [*]
      rw [aZ,bh,cF];simp only [aSz];exact ⟨A,a,B,b,C,c,Z,hS,hA,bf,d_,(λ q I Φ=>by (exact vN q I Φ)),(λ q I Φ=>by (exact vO q I Φ)),(λ q I Φ=>by (exact s3 q I Φ)),(λ q I Φ=>by (exact Db q I Φ)),(λ q I Φ=>by (exact zk q I Φ)),(λ q I Φ=>by (exact zl q I Φ)),(λ q I=> .inl I),(λ q I=> .inl I),(λ q I=> .inl I),bj⟩
end
section
theorem Nk {l:List aL} (h:iB l=0):l.length≤100∧∀ o∈l,o.bm=0:=by
 unfold iB at h;split at h
 ·cases h
 ·refine ⟨by omega,λ o b4=> ?_⟩;split at h
  ·rename_i x hx
   have:=aU5 hx;rw [h] at this;exact nomatch this
  ·rename_i hx
   have:=aSY.1 hx o b4;simpa using this
end
section
def yk (W:ae) (k:Nat):List (Int×Int):=(W.ak.take k).map λ t=>(t.id,t.owner)
theorem aA4 {W:ae} {k:Nat} (h:k<W.ak.length):yk W (k+1)=yk W k++ [((W.ak.getD k default).id,(W.ak.getD k default).owner)]:=by
 unfold yk;rw [z_ (d:=default) h,aSm];rfl
theorem aA6 {W:ae} (br:Good W) {k:Nat} (h:k<W.ak.length):cM (yk W k) (W.ak.getD k default).id=none:=by
 unfold cM yk;rw [List.find?_map,aWp,aWp,aSY];intro x hx;obtain ⟨i,aq,e⟩:=aSV.1 hx;rw [aRZ] at aq;rw [List.getElem_take] at e;have:=(aSH.1 br.wJ) i k (by omega) h (by omega);rw [← e,mK h];have κ:=this.1;simp only [Function.comp_apply,aST];omega
def may (W:ae) (o:aL):Bool:=if o.kind=5 then decide (o.by_<(W.aV.length:Int)) && (o.by_ == o.by_) else (cM (yk W W.ak.length) o.aR).isSome && ((cM (yk W W.ak.length) o.aR).getD 0 == o.by_)
def dM (W:ae) (l:List aL) (k:Nat):List c_:=(l.take k).flatMap λ o=>if may W o=true then nV o else []
theorem Zy {W:ae} {l:List aL} {k:Nat} (h:k<l.length) (hm:may W (l.getD k default)=true):dM W l (k+1)=dM W l k++nV (l.getD k default):=by
 unfold dM;rw [z_ (d:=default) h,aTj,aTu,aT9,aSz,aR8 hm]
theorem Zx {W:ae} {l:List aL} {k:Nat} (h:k<l.length) (hm:may W (l.getD k default)=false):dM W l (k+1)=dM W l k:=by
 unfold dM;rw [z_ (d:=default) h,aTj,aTu,aT9,aSz,aR5 (by rw [hm];decide),aSz]
theorem alS (W:ae) (l:List aL):∀ k,(dM W l k).length≤k
 | 0=>by simp [dM]
 | k+1=>by
  have bx:=alS W l k;by_cases h:k<l.length
  ·cases hm:may W (l.getD k default) with
   | true=>rw [Zy h hm,aR1];have:(nV (l.getD k default)).length≤1:=(by unfold nV;(repeat' split)<;>simp);omega
   | false=>rw [Zx h hm];omega
  ·have:dM W l (k+1)=dM W l k:=by unfold dM;rw [aSk (by omega),aSk (by omega)]
   rw [this];omega
def eo (W:ae) (l:List aL) (k:Nat):List dm:=(l.take k).flatMap λ o=>if may W o=true then nX o else []
theorem ZC {W:ae} {l:List aL} {k:Nat} (h:k<l.length) (hm:may W (l.getD k default)=true):eo W l (k+1)=eo W l k++nX (l.getD k default):=by
 unfold eo;rw [z_ (d:=default) h,aTj,aTu,aT9,aSz,aR8 hm]
theorem ZB {W:ae} {l:List aL} {k:Nat} (h:k<l.length) (hm:may W (l.getD k default)=false):eo W l (k+1)=eo W l k:=by
 unfold eo;rw [z_ (d:=default) h,aTj,aTu,aT9,aSz,aR5 (by rw [hm];decide),aSz]
theorem alU (W:ae) (l:List aL):∀ k,(eo W l k).length≤k
 | 0=>by simp [eo]
 | k+1=>by
  have bx:=alU W l k;by_cases h:k<l.length
  ·cases hm:may W (l.getD k default) with
   | true=>rw [ZC h hm,aR1];have:(nX (l.getD k default)).length≤1:=(by unfold nX;(repeat' split)<;>simp);omega
   | false=>rw [ZB h hm];omega
  ·have:eo W l (k+1)=eo W l k:=by unfold eo;rw [aSk (by omega),aSk (by omega)]
   rw [this];omega
def eG (W:ae) (l:List aL) (k:Nat):List cd:=(l.take k).flatMap λ o=>if may W o=true then nW o else []
theorem ZA {W:ae} {l:List aL} {k:Nat} (h:k<l.length) (hm:may W (l.getD k default)=true):eG W l (k+1)=eG W l k++nW (l.getD k default):=by
 unfold eG;rw [z_ (d:=default) h,aTj,aTu,aT9,aSz,aR8 hm]
theorem Zz {W:ae} {l:List aL} {k:Nat} (h:k<l.length) (hm:may W (l.getD k default)=false):eG W l (k+1)=eG W l k:=by
 unfold eG;rw [z_ (d:=default) h,aTj,aTu,aT9,aSz,aR5 (by rw [hm];decide),aSz]
theorem alT (W:ae) (l:List aL):∀ k,(eG W l k).length≤k
 | 0=>by simp [eG]
 | k+1=>by
  have bx:=alT W l k;by_cases h:k<l.length
  ·cases hm:may W (l.getD k default) with
   | true=>rw [ZA h hm,aR1];have:(nW (l.getD k default)).length≤1:=(by unfold nW;(repeat' split)<;>simp);omega
   | false=>rw [Zz h hm];omega
  ·have:eG W l (k+1)=eG W l k:=by unfold eG;rw [aSk (by omega),aSk (by omega)]
   rw [this];omega
theorem alV (W:ae) (l:List aL) (k:Nat):(dM W l k).length≤k∧(eo W l k).length≤k∧(eG W l k).length≤k:=⟨alS W l k,alU W l k,alT W l k⟩
theorem alW (A:Option Addr) (c:Nat) (l:List aL) (rI:ae.b2) (W:ae) (w:World) (ay:aL.rep.aJ 48 w A c l) (bG:ae.Has w rI W):
  Calls prog 30 #[.slice A l.length c, .agg ((ae.cells rI W).toArray)] w (λ e w'=>∃ hk bZ cp c1 cZ c2,((iB l≠0∧e= .returned (.tuple #[.slice none 0 0, .slice none 0 0, .slice none 0 0, .int .i64 (iB l)]))∨(iB l=0∧W.bm≠0∧e= .returned (.tuple #[.slice none 0 0, .slice none 0 0, .slice none 0 0, .int .i64 W.bm]))∨(iB l=0∧W.bm=0∧e= .returned (.tuple #[.slice hk (dM W l l.length).length bZ, .slice cp (eo W l l.length).length c1, .slice cZ (eG W l l.length).length c2, .int .i64 0])∧c_.rep.aF 201 16 w' w.heap.size (τ.ah hk) hk bZ (dM W l l.length)∧dm.rep.aF 203 24 w' w.heap.size (τ.ah cp) cp c1 (eo W l l.length)∧cd.rep.aF 153 40 w' w.heap.size (τ.ah cZ) cZ c2 (eG W l l.length)))∧Ext w w'):=by
 have oA:=ay.eE;refine cl (n:=82) func30 Z Z Z ?_;refine aj<|cA Z Z Z Z λ cC bF a8 ef aa=> ?_;have:=a8.size;have bj:=γ (Ext.bN w) a8;have ei:=aa.lt;refine va Z<|va Z<|va Z<|va Z<|ai<|aA<|aj<|vm Z<|ca Vo Z Z ((YG _ _ l _ (ay.keep bj)).mono ?_);rintro e ew ⟨rfl,cz⟩;refine ⟨_,Z, ?_⟩;have:=cz.size;have bO:=γ bj cz;refine va Z<|ai<|aj<|vm Z<|J (bne Z Z)<|ai<| ?_;refine eV Z (λ jx=> ?_) (λ jx=> ?_)
 ·refine aj<|vm Z<|va Z<|va Z<|va Z<|va Z<|ai<|rt<|bT<|bd (.tmp Z (.tmp Z (.tmp Z (.tmp Z .nil))))<| ?_;exact ⟨none,0,none,0,none,0, .inl ⟨jx,Z⟩,bO⟩
 ·obtain ⟨awV,_⟩:=Nk (by simpa using jx);refine bu<|aA<|aj<| ?_;have aa:=aa.later cz;refine J (ao Z (aa.all dc b3))<|ca FE Z Z ((A8 rI W _ (bG.keep bO)).mono ?_);rintro e Ai ⟨rfl,dv⟩;refine ⟨_,Z, ?_⟩;have:=dv.size;have kC:=γ bO dv;refine va Z<|ai<|aj<|vm Z<|J (bne Z Z)<|ai<| ?_;refine eV Z (λ iN=> ?_) (λ iN=> ?_)
  ·refine aj<|vm Z<|va Z<|va Z<|va Z<|va Z<|ai<|rt<|bT<|bd (.tmp Z (.tmp Z (.tmp Z (.tmp Z .nil))))<| ?_;exact ⟨none,0,none,0,none,0, .inr (.inl ⟨by simpa using jx,iN,rfl⟩),kC⟩
  ·have br:=Good.q_ (by simpa using iN);have BF:=br.dV;have Q_:=br.kg;refine bu<|aj<|YC Z λ yB sx mz aza abO=> ?_;have:=mz.size;have kV:=γ kC mz;have R7:=abO.lt;refine va Z<|ai<|aA<|aj<|J (av ku Z)<| ?_;have aa:=aa.later (γ dv mz);refine J (ao Z (aa.one ma Z))<|J (cG underlying26 Z)<|vm Z<|ai<|bL<| ?_;refine eL (λ cg cf aQ=>∃ k:Nat,cf= [(0, .slice A l.length c),(3, .pointer (some ⟨bF,0,none⟩)),(4, .slice none 0 0),(5, .slice none 0 0),(6, .slice none 0 0),(7, .int .i64 0),(10, .map (some sx)),(30, .slice rI.T W.ak.length rI.t),(31, .int .i64 (W.ak.length:Int)),(32, .int .i64 (k:Int))]∧cg=W.ak.length - k∧Ext w aQ∧aP aQ bF (ae.cells rI W) 28 (0,0)∧pR aQ sx (yk W k)∧(k≤W.ak.length)) _ _ ⟨0,Z,Z,kV,aa,abO,by omega⟩ (.cons Z (.cons Z (.cons Z (.cons Z (.cons Z (.cons Z (.cons Z (.cons Z (.cons Z (.cons (bW Z) .nil)))))))))) ?_;rintro lS aHj Ch ⟨k,rfl,rfl,kD,aa,gY,ar⟩;have:=kD.size;have ak3:=aa.lt;have Np:=gY.lt;refine aj<|J (blt Z Z)<|ai<|aA<| ?_;refine dY Z (λ avO=> ?_) (λ avO=> ?_)
   ·refine bu<|aA<|bL<|aj<|J (b9 k underlying26 ih Z Z ((bG.T.keep kD).bP (bb k)) Z (by omega))<|J (ao Z (τ.aJ.ik j0 ((bG.T.keep kD).cw (bb k)) (c8 (l:=W.ak) (u:=default) (by omega)) uB ih))<|al Z Bi Z Z λ Ci acP dh ajt xc=> ?_;have:=dh.size;have pG:=γ kD dh;have aB3:=xc.lt;refine st (new:= [.int .i64 ((W.ak.getD k default).id), .int .i64 ((W.ak.getD k default).owner), .int .i64 ((W.ak.getD k default).kind), .int .i64 ((W.ak.getD k default).spot.x), .int .i64 ((W.ak.getD k default).spot.y), .int .i64 ((W.ak.getD k default).cD), .int .i64 ((W.ak.getD k default).load)]) Z Z xc Z ih Z Z Z λ yD q6 xc=> ?_;have:=q6.size;have j_:=Ext.mod pG q6 bt;refine ai<|rg<|vm Z<|J (av FF Z)<|J (ao Z (xc.one bc Z))<|J (av FD Z)<|J (ao Z (xc.one bc Z))<| ?_;have gY:=gY.later dh;have gY:=gY.mod q6 aM;refine mu underlying141 underlying3 gY (aA6 br (by omega)) Z Z Z λ SX nS gY=> ?_;have:=nS.size;have Cw:=Ext.mod j_ nS bt;refine nl<|bY<|aU<|rg<|J (bad Z Z (bD (by omega)))<|vm Z<|nl<| ?_;have aZ:yk W (k+1)=yk W k++ [((W.ak.getD k default).id,(W.ak.getD k default).owner)]:=aA4 (by omega);have aa:=aa.later dh;have aa:=aa.mod q6 aM;have aa:=aa.mod nS aM;exact c9 _ _ ⟨k+1,Z,Z,Cw,aa,(by rw [aZ];exact gY),by omega⟩ (by omega) (.cons Z (.cons Z (.cons Z (.cons Z (.cons Z (.cons Z (.cons Z (.cons Z (.cons Z (.cons (bW Z) .nil))))))))))
   ·refine dw<|du<|dN<|dt<|aU<|aj<|al Z asZ Z Z λ Jv uk qz aMF abd=> ?_;have:=qz.size;have vp:=γ kD qz;have aPc:=abd.lt;refine ai<|aA<|aj<|vm Z<|J (cG underlying48 Z)<|vm Z<|ai<|bL<| ?_;have k3:k=W.ak.length:=by omega
    subst k3;have aa:=aa.later qz;have gY:=gY.later qz;refine eL (λ cg cf aQ=>∃ j:Nat,∃ hk:Option Addr,∃ bZ:Nat,∃ cp:Option Addr,∃ c1:Nat,∃ cZ:Option Addr,∃ c2:Nat,cf= [(3, .pointer (some ⟨bF,0,none⟩)),(4, .slice none 0 0),(5, .slice none 0 0),(6, .slice none 0 0),(7, .int .i64 0),(10, .map (some sx)),(13, .pointer (some ⟨uk,0,none⟩)),(42, .slice A l.length c),(43, .int .i64 (l.length:Int)),(44, .int .i64 (j:Int))]∧cg=l.length - j∧Ext w aQ∧aP aQ bF (ae.cells rI W) 28 (0,0)∧pR aQ sx (yk W W.ak.length)∧aP aQ uk [.slice hk ((dM W l j).length) bZ, .slice cp ((eo W l j).length) c1, .slice cZ ((eG W l j).length) c2] 143 (0,0)∧c_.rep.aF 201 16 aQ w.heap.size (τ.ah hk) hk bZ (dM W l j)∧dm.rep.aF 203 24 aQ w.heap.size (τ.ah cp) cp c1 (eo W l j)∧cd.rep.aF 153 40 aQ w.heap.size (τ.ah cZ) cZ c2 (eG W l j)∧(j≤l.length)∧(∀ q∈τ.ah hk,q=bF→False)∧(∀ q∈τ.ah hk,q=sx→False)∧(∀ q∈τ.ah hk,q=uk→False)∧(∀ q∈τ.ah cp,q=bF→False)∧(∀ q∈τ.ah cp,q=sx→False)∧(∀ q∈τ.ah cp,q=uk→False)∧(∀ q∈τ.ah cp,q∈τ.ah hk→False)∧(∀ q∈τ.ah cZ,q=bF→False)∧(∀ q∈τ.ah cZ,q=sx→False)∧(∀ q∈τ.ah cZ,q=uk→False)∧(∀ q∈τ.ah cZ,q∈τ.ah hk→False)∧(∀ q∈τ.ah cZ,q∈τ.ah cp→False)) _ _ ⟨0,none,0,none,0,none,0,Z,Z,vp,aa,gY,abd,(τ.aF.nil _),(τ.aF.nil _),(τ.aF.nil _),by omega,(λ q I Φ=>by (simp [τ.ah] at I)),(λ q I Φ=>by (simp [τ.ah] at I)),(λ q I Φ=>by (simp [τ.ah] at I)),(λ q I Φ=>by (simp [τ.ah] at I)),(λ q I Φ=>by (simp [τ.ah] at I)),(λ q I Φ=>by (simp [τ.ah] at I)),(λ q I Φ=>by (simp [τ.ah] at I)),(λ q I Φ=>by (simp [τ.ah] at I)),(λ q I Φ=>by (simp [τ.ah] at I)),(λ q I Φ=>by (simp [τ.ah] at I)),(λ q I Φ=>by (simp [τ.ah] at I)),(λ q I Φ=>by (simp [τ.ah] at I))⟩ (.cons Z (.cons Z (.cons Z (.cons Z (.cons Z (.cons Z (.cons Z (.cons Z (.cons Z (.cons (bW Z) .nil)))))))))) ?_;rintro sq aHw S1 ⟨j,hk,bZ,cp,c1,cZ,c2,rfl,rfl,sN,aa,gY,bp,jS,jT,jU,az,HM,HN,Ba,xE,nJ,rN,ux,ot,ou,De,Bb,PS⟩;have:=sN.size;have ak8:=aa.lt;have R9:=gY.lt;have Y2:=bp.lt;have SL:=λ q I=>(jS.lt q I).2;have tK:=λ q I=>(jT.lt q I).2;have NQ:=λ q I=>(jU.lt q I).2;have tj:=alV W l j;refine aj<|J (blt Z Z)<|ai<|aA<| ?_;refine dY Z (λ WM=> ?_) (λ WM=> ?_)
    ·have BG:=aL.nF ay _ (jC (d:=default) (show j<l.length by omega));refine bu<|aA<|bL<|aj<|J (b9 j underlying48 fN Z Z ((ay.keep sN).bP (bb j)) Z (by omega))<|J (ao Z (τ.aJ.ik LN ((ay.keep sN).cw (bb j)) (c8 (l:=l) (u:=default) (by omega)) jW fN))<|al Z P2 Z Z λ GM Pn fT ajz gO=> ?_;have:=fT.size;have yR:=γ sN fT;have ak9:=gO.lt;refine st (new:= [.int .i64 ((l.getD j default).by_), .int .i64 ((l.getD j default).kind), .int .i64 ((l.getD j default).aR), .int .i64 ((l.getD j default).spot.x), .int .i64 ((l.getD j default).spot.y), .int .i64 ((l.getD j default).what)]) Z Z gO Z fN Z Z Z λ amX iQ gO=> ?_;have:=iQ.size;have EJ:=Ext.mod yR iQ bt;refine ai<|aj<|vm Z<|J (av Df Z)<|J (ao Z (gO.one bc Z))<| ?_;have gY:=gY.later fT;have gY:=gY.mod iQ aM;refine J (lk underlying141 underlying3 Qd gY Z Z)<|vm Z<|J (ex Z Z)<|J (ex Z Z)<|va Z<|va Z<|ai<|aA<|aj<|J (av p1 Z)<|J (ao Z (gO.one bc Z))<|J (beq Z Z)<|ai<| ?_;refine ka Z (λ zF=> ?_) (λ zF=> ?_)
     ·refine rd [(1,0),(3,0),(5,0)] [0,1,2,3,4,5,6,7,8,9] (by kernel_rfl) (by kernel_rfl) ?_;refine au Z (λ _=>av uz Z)<|bJ Z (λ _ x=>ao Z ((gO.later x).one bc Z))<|au Z (λ _=>av uz Z)<|bJ Z (λ _ x=>ao Z ((gO.later x).one bc Z))<|au Z (λ _=>av uC Z)<| ?_;have aa:=aa.later fT;have aa:=aa.mod iQ aM;refine bJ Z (λ _ x=>ao Z ((aa.later x).one zw Z))<|au Z (λ _=>cG underlying25 Z)<|au Z (λ _=>blt Z Z)<|au Z (λ _=>fF Z)<|au Z (λ _=>fF Z)<|fn λ JG dX=> ?_;have:=dX.size;have lr:=γ EJ dX;refine aU<|aj<|vm Z<|vm Z<|bs Z Z Z Z (λ hc=>aK Z) Z<|bs Z Z Z Z (λ hc=>av uz Z) Z<| ?_;have gO:=gO.later dX;refine bs Z Z Z Z (λ hc=>ao (gt hc Z) (gO.one bc Z)) Z<|bs Z Z Z Z (λ hc=>beq (gt hc Z) (gt hc Z)) Z<|J (eN Z Z Z Z)<|ai<| ?_;refine ed Z (λ FO=> ?_) (λ FO=> ?_)
      ·have sg:may W (l.getD j default)=true:=by unfold may;rw [aR8 zF];rw [← FO]
       refine rg<|J (ao Z (gO.all jW fN))<| ?_;have bp:=bp.later fT;have bp:=bp.mod iQ aM;have bp:=bp.later dX;have jS:=jS.later fT;have jS:=jS.mod iQ (bI SL);have jS:=jS.later dX;have jT:=jT.later fT;have jT:=jT.mod iQ (bI tK);have jT:=jT.later dX;have jU:=jU.later fT;have jU:=jU.mod iQ (bI NQ);have jU:=jU.later dX;have avg:∀ q∈(uk::(τ.ah hk++(τ.ah cp++τ.ah cZ))),w.heap.size≤q:=by
        intro q I;simp only [aSh,aSb] at I;rcases I with I | I | I | I
        ·omega
        ·exact (jS.lt q I).1
        ·exact (jT.lt q I).1
        ·exact (jU.lt q I).1
       refine ca aeH Z Z ((acD (l.getD j default) w uk _ _ _ _ _ _ _ _ _ _ lr BG bp jS jT jU (λ q I Φ=>by (exact Ba q I Φ)) (λ q I Φ=>by (exact rN q I Φ)) (λ q I Φ=>by (exact De q I Φ)) (λ q I Φ=>by (exact ux q I Φ)) (λ q I Φ=>by (exact Bb q I Φ)) (λ q I Φ=>by (exact PS q I Φ)) (by omega) (by omega) (by omega)).mono ?_);rintro e NY ⟨an1,aqQ,an2,aqR,an3,aqS,rfl,OI,acp,acq,acr,asy,asz,asA,asp,asq,asr,afA,afB,afC,uS⟩;refine ⟨_,Z, ?_⟩;have:=uS.size;have CC:=Ext.mod lr uS avg;have aQM:=λ q I=>(acp.lt q I).2;have aEl:=λ q I=>(acq.lt q I).2;have aQN:=λ q I=>(acr.lt q I).2;refine nl<|bY<|aU<|rg<|J (bad Z Z (bD (by omega)))<|vm Z<|nl<| ?_;have bh:dM W l (j+1)=dM W l j++nV (l.getD j default):=Zy (by omega) sg;have cF:eo W l (j+1)=eo W l j++nX (l.getD j default):=ZC (by omega) sg;have jd:eG W l (j+1)=eG W l j++nW (l.getD j default):=ZA (by omega) sg;have aa:=aa.later dX;have aAz:bF∉(uk::(τ.ah hk++(τ.ah cp++τ.ah cZ))):=by
        intro I;simp only [aSh,aSb] at I;rcases I with I | I | I | I
        ·omega
        ·exact (λ q (κ:q∈τ.ah hk) (ab:q=bF)=>show False by (exact HM q κ ab)) _ I Z
        ·exact (λ q (κ:q∈τ.ah cp) (ab:q=bF)=>show False by (exact xE q κ ab)) _ I Z
        ·exact (λ q (κ:q∈τ.ah cZ) (ab:q=bF)=>show False by (exact ot q κ ab)) _ I Z
       have aa:=aa.mod uS aAz;have gY:=gY.later dX;have aAA:sx∉(uk::(τ.ah hk++(τ.ah cp++τ.ah cZ))):=by
        intro I;simp only [aSh,aSb] at I;rcases I with I | I | I | I
        ·omega
        ·exact (λ q (κ:q∈τ.ah hk) (ab:q=sx)=>show False by (exact HN q κ ab)) _ I Z
        ·exact (λ q (κ:q∈τ.ah cp) (ab:q=sx)=>show False by (exact nJ q κ ab)) _ I Z
        ·exact (λ q (κ:q∈τ.ah cZ) (ab:q=sx)=>show False by (exact ou q κ ab)) _ I Z
       have gY:=gY.mod uS aAA;exact c9 _ _ ⟨j+1,an1,aqQ,an2,aqR,an3,aqS,Z,Z,CC,aa,gY,(by rw [bh,cF,jd];exact OI),(by rw [bh];exact acp),(by rw [cF];exact acq),(by rw [jd];exact acr),by omega,(λ q I Φ=>by (exact aR9 (afA q I) (λ Ms=>by (exact HM q Ms Φ)) (λ Ms=>by omega))),(λ q I Φ=>by (exact aR9 (afA q I) (λ Mt=>by (exact HN q Mt Φ)) (λ Mt=>by omega))),(λ q I Φ=>by (exact asy q I Φ)),(λ q I Φ=>by (exact aR9 (afB q I) (λ DR=>by (exact xE q DR Φ)) (λ DR=>by omega))),(λ q I Φ=>by (exact aR9 (afB q I) (λ Mu=>by (exact nJ q Mu Φ)) (λ Mu=>by omega))),(λ q I Φ=>by (exact asz q I Φ)),(λ q I Φ=>by (exact asp q I Φ)),(λ q I Φ=>by (exact aR9 (afC q I) (λ Mv=>by (exact ot q Mv Φ)) (λ Mv=>by omega))),(λ q I Φ=>by (exact aR9 (afC q I) (λ Mw=>by (exact ou q Mw Φ)) (λ Mw=>by omega))),(λ q I Φ=>by (exact asA q I Φ)),(λ q I Φ=>by (exact asq q I Φ)),(λ q I Φ=>by (exact asr q I Φ))⟩ (by omega) (.cons Z (.cons Z (.cons Z (.cons Z (.cons Z (.cons Z (.cons Z (.cons Z (.cons Z (.cons (bW Z) .nil))))))))))
      ·have sg:may W (l.getD j default)=false:=by unfold may;rw [aR8 zF];rw [← FO]
       refine fI<|bY<|aU<|rg<|J (bad Z Z (bD (by omega)))<|vm Z<|nl<| ?_;have bh:dM W l (j+1)=dM W l j:=Zx (by omega) sg;have cF:eo W l (j+1)=eo W l j:=ZB (by omega) sg;have jd:eG W l (j+1)=eG W l j:=Zz (by omega) sg;have aa:=aa.later dX;have gY:=gY.later dX;have bp:=bp.later fT;have bp:=bp.mod iQ aM;have bp:=bp.later dX;have jS:=jS.later fT;have jS:=jS.mod iQ (bI SL);have jS:=jS.later dX;have jT:=jT.later fT;have jT:=jT.mod iQ (bI tK);have jT:=jT.later dX;have jU:=jU.later fT;have jU:=jU.mod iQ (bI NQ);have jU:=jU.later dX;exact c9 _ _ ⟨j+1,hk,bZ,cp,c1,cZ,c2,Z,Z,lr,aa,gY,(by rw [bh,cF,jd];exact bp),(by rw [bh];exact jS),(by rw [cF];exact jT),(by rw [jd];exact jU),by omega,(λ q I Φ=>by (exact HM q I Φ)),(λ q I Φ=>by (exact HN q I Φ)),(λ q I Φ=>by (exact Ba q I Φ)),(λ q I Φ=>by (exact xE q I Φ)),(λ q I Φ=>by (exact nJ q I Φ)),(λ q I Φ=>by (exact rN q I Φ)),(λ q I Φ=>by (exact ux q I Φ)),(λ q I Φ=>by (exact ot q I Φ)),(λ q I Φ=>by (exact ou q I Φ)),(λ q I Φ=>by (exact De q I Φ)),(λ q I Φ=>by (exact Bb q I Φ)),(λ q I Φ=>by (exact PS q I Φ))⟩ (by omega) (.cons Z (.cons Z (.cons Z (.cons Z (.cons Z (.cons Z (.cons Z (.cons Z (.cons Z (.cons (bW Z) .nil))))))))))
     ·refine bu<|aj<|vm Z<|vm Z<|bs Z Z Z Z (λ hc=>aK Z) Z<|bs Z Z Z Z (λ hc=>av uz Z) Z<|bs Z Z Z Z (λ hc=>ao (gt hc Z) (gO.one bc Z)) Z<|bs Z Z Z Z (λ hc=>beq (gt hc Z) (gt hc Z)) Z<|J (eN Z Z Z Z)<|ai<| ?_;refine ed Z (λ FN=> ?_) (λ FN=> ?_)
      ·have sg:may W (l.getD j default)=true:=by unfold may;rw [aR5 zF];rw [← FN]
       refine rg<|J (ao Z (gO.all jW fN))<| ?_;have bp:=bp.later fT;have bp:=bp.mod iQ aM;have jS:=jS.later fT;have jS:=jS.mod iQ (bI SL);have jT:=jT.later fT;have jT:=jT.mod iQ (bI tK);have jU:=jU.later fT;have jU:=jU.mod iQ (bI NQ);have avf:∀ q∈(uk::(τ.ah hk++(τ.ah cp++τ.ah cZ))),w.heap.size≤q:=by
        intro q I;simp only [aSh,aSb] at I;rcases I with I | I | I | I
        ·omega
        ·exact (jS.lt q I).1
        ·exact (jT.lt q I).1
        ·exact (jU.lt q I).1
       refine ca aeH Z Z ((acD (l.getD j default) w uk _ _ _ _ _ _ _ _ _ _ EJ BG bp jS jT jU (λ q I Φ=>by (exact Ba q I Φ)) (λ q I Φ=>by (exact rN q I Φ)) (λ q I Φ=>by (exact De q I Φ)) (λ q I Φ=>by (exact ux q I Φ)) (λ q I Φ=>by (exact Bb q I Φ)) (λ q I Φ=>by (exact PS q I Φ)) (by omega) (by omega) (by omega)).mono ?_);rintro e GG ⟨anH,aqx,anI,aqy,anJ,aqz,rfl,an5,ab3,ab4,ab5,asv,asw,asx,asm,asn,aso,aft,afu,afv,uM⟩;refine ⟨_,Z, ?_⟩;have:=uM.size;have N9:=Ext.mod EJ uM avf;have aEa:=λ q I=>(ab3.lt q I).2;have aQc:=λ q I=>(ab4.lt q I).2;have aQd:=λ q I=>(ab5.lt q I).2;refine nl<|bY<|aU<|rg<|J (bad Z Z (bD (by omega)))<|vm Z<|nl<| ?_;have bh:dM W l (j+1)=dM W l j++nV (l.getD j default):=Zy (by omega) sg;have cF:eo W l (j+1)=eo W l j++nX (l.getD j default):=ZC (by omega) sg;have jd:eG W l (j+1)=eG W l j++nW (l.getD j default):=ZA (by omega) sg;have aa:=aa.later fT;have aa:=aa.mod iQ aM;have aAx:bF∉(uk::(τ.ah hk++(τ.ah cp++τ.ah cZ))):=by
        intro I;simp only [aSh,aSb] at I;rcases I with I | I | I | I
        ·omega
        ·exact (λ q (κ:q∈τ.ah hk) (ab:q=bF)=>show False by (exact HM q κ ab)) _ I Z
        ·exact (λ q (κ:q∈τ.ah cp) (ab:q=bF)=>show False by (exact xE q κ ab)) _ I Z
        ·exact (λ q (κ:q∈τ.ah cZ) (ab:q=bF)=>show False by (exact ot q κ ab)) _ I Z
       have aa:=aa.mod uM aAx;have aAy:sx∉(uk::(τ.ah hk++(τ.ah cp++τ.ah cZ))):=by
        intro I;simp only [aSh,aSb] at I;rcases I with I | I | I | I
        ·omega
        ·exact (λ q (κ:q∈τ.ah hk) (ab:q=sx)=>show False by (exact HN q κ ab)) _ I Z
        ·exact (λ q (κ:q∈τ.ah cp) (ab:q=sx)=>show False by (exact nJ q κ ab)) _ I Z
        ·exact (λ q (κ:q∈τ.ah cZ) (ab:q=sx)=>show False by (exact ou q κ ab)) _ I Z
       have gY:=gY.mod uM aAy;exact c9 _ _ ⟨j+1,anH,aqx,anI,aqy,anJ,aqz,Z,Z,N9,aa,gY,(by rw [bh,cF,jd];exact an5),(by rw [bh];exact ab3),(by rw [cF];exact ab4),(by rw [jd];exact ab5),by omega,(λ q I Φ=>by (exact aR9 (aft q I) (λ ahV=>by (exact HM q ahV Φ)) (λ ahV=>by omega))),(λ q I Φ=>by (exact aR9 (aft q I) (λ ahW=>by (exact HN q ahW Φ)) (λ ahW=>by omega))),(λ q I Φ=>by (exact asv q I Φ)),(λ q I Φ=>by (exact aR9 (afu q I) (λ DS=>by (exact xE q DS Φ)) (λ DS=>by omega))),(λ q I Φ=>by (exact aR9 (afu q I) (λ Mx=>by (exact nJ q Mx Φ)) (λ Mx=>by omega))),(λ q I Φ=>by (exact asw q I Φ)),(λ q I Φ=>by (exact asm q I Φ)),(λ q I Φ=>by (exact aR9 (afv q I) (λ My=>by (exact ot q My Φ)) (λ My=>by omega))),(λ q I Φ=>by (exact aR9 (afv q I) (λ Mz=>by (exact ou q Mz Φ)) (λ Mz=>by omega))),(λ q I Φ=>by (exact asx q I Φ)),(λ q I Φ=>by (exact asn q I Φ)),(λ q I Φ=>by (exact aso q I Φ))⟩ (by omega) (.cons Z (.cons Z (.cons Z (.cons Z (.cons Z (.cons Z (.cons Z (.cons Z (.cons Z (.cons (bW Z) .nil))))))))))
      ·have sg:may W (l.getD j default)=false:=by unfold may;rw [aR5 zF];rw [← FN]
       refine fI<|bY<|aU<|rg<|J (bad Z Z (bD (by omega)))<|vm Z<|nl<| ?_;have bh:dM W l (j+1)=dM W l j:=Zx (by omega) sg;have cF:eo W l (j+1)=eo W l j:=ZB (by omega) sg;have jd:eG W l (j+1)=eG W l j:=Zz (by omega) sg;have aa:=aa.later fT;have aa:=aa.mod iQ aM;have bp:=bp.later fT;have bp:=bp.mod iQ aM;have jS:=jS.later fT;have jS:=jS.mod iQ (bI SL);have jT:=jT.later fT;have jT:=jT.mod iQ (bI tK);have jU:=jU.later fT;have jU:=jU.mod iQ (bI NQ);exact c9 _ _ ⟨j+1,hk,bZ,cp,c1,cZ,c2,Z,Z,EJ,aa,gY,(by rw [bh,cF,jd];exact bp),(by rw [bh];exact jS),(by rw [cF];exact jT),(by rw [jd];exact jU),by omega,(λ q I Φ=>by (exact HM q I Φ)),(λ q I Φ=>by (exact HN q I Φ)),(λ q I Φ=>by (exact Ba q I Φ)),(λ q I Φ=>by (exact xE q I Φ)),(λ q I Φ=>by (exact nJ q I Φ)),(λ q I Φ=>by (exact rN q I Φ)),(λ q I Φ=>by (exact ux q I Φ)),(λ q I Φ=>by (exact ot q I Φ)),(λ q I Φ=>by (exact ou q I Φ)),(λ q I Φ=>by (exact De q I Φ)),(λ q I Φ=>by (exact Bb q I Φ)),(λ q I Φ=>by (exact PS q I Φ))⟩ (by omega) (.cons Z (.cons Z (.cons Z (.cons Z (.cons Z (.cons Z (.cons Z (.cons Z (.cons Z (.cons (bW Z) .nil))))))))))
    ·refine dw<|du<|dN<|dt<|aU<|aA<| ?_;refine rd [(1,0),(3,0),(5,0)] [0,1,2,3,4,5,6,7,8,9] (by kernel_rfl) (by kernel_rfl) ?_;refine au Z (λ _=>av Vl Z)<|bJ Z (λ _ x=>ao Z ((bp.later x).one aeE Z))<|au Z (λ _=>av Vm Z)<|bJ Z (λ _ x=>ao Z ((bp.later x).one aeF Z))<|au Z (λ _=>av FA Z)<|bJ Z (λ _ x=>ao Z ((bp.later x).one P4 Z))<|au Z (λ _=>fF Z)<|au Z (λ _=>fF Z)<|au Z (λ _=>fF Z)<|au Z (λ _=>fF Z)<|fn λ aQZ N4=> ?_;have:=N4.size;have aFX:=γ sN N4;refine aU<|rt<|bd (.tmp Z (.tmp Z (.tmp Z (.tmp Z .nil))))<| ?_;have jS:=jS.later N4;have jT:=jT.later N4;have jU:=jU.later N4;have VH:j=l.length:=by omega
     subst VH;exact ⟨hk,bZ,cp,c1,cZ,c2, .inr (.inr ⟨by simpa using jx,by simpa using iN,rfl,jS,jT,jU⟩),aFX⟩
end
section
def oM (W:ae) (l:List aL):Int:=if iB l≠0 then iB l else W.bm
theorem Sr {W:ae} {l:List aL} (h:oM W l=0):iB l=0∧W.bm=0:=by
 unfold oM at h;split at h
 ·rename_i κ;exact absurd h κ
 ·rename_i κ;exact ⟨by simpa using κ,h⟩
theorem aDc {W:ae} {l:List aL} (h:oM W l=0):l.length≤100:=(Nk (Sr h).1).1
theorem aDd (A:Option Addr) (c:Nat) (l:List aL) (rI:ae.b2) (W:ae) (w:World) (ay:aL.rep.aJ 48 w A c l) (bG:ae.Has w rI W) (h:oM W l≠0):Calls prog 30 #[.slice A l.length c, .agg (ae.cells rI W).toArray] w (λ e w'=>e= .returned (.tuple #[.slice none 0 0, .slice none 0 0, .slice none 0 0, .int .i64 (oM W l)])∧Ext w w'):=by
 refine (alW A c l rI W w ay bG).mono λ e w' he=> ?_;obtain ⟨hk,bZ,cp,c1,cZ,c2,(⟨κ,ab⟩ | ⟨κ,ab,aw⟩ | ⟨κ,ab,_⟩),hx⟩:=he
 ·exact ⟨by rw [ab];unfold oM;rw [aR8 κ],hx⟩
 ·exact ⟨by rw [aw];unfold oM;rw [aR5 (by simpa using κ)],hx⟩
 ·exact absurd (by unfold oM;rw [aR5 (by simpa using κ)];exact ab) h
theorem alX (A:Option Addr) (c:Nat) (l:List aL) (rI:ae.b2) (W:ae) (w:World) (ay:aL.rep.aJ 48 w A c l) (bG:ae.Has w rI W) (h:oM W l=0):Calls prog 30 #[.slice A l.length c, .agg (ae.cells rI W).toArray] w (λ e w'=>∃ hk bZ cp c1 cZ c2,e= .returned (.tuple #[.slice hk (dM W l l.length).length bZ, .slice cp (eo W l l.length).length c1, .slice cZ (eG W l l.length).length c2, .int .i64 0])∧c_.rep.aF 201 16 w' w.heap.size (τ.ah hk) hk bZ (dM W l l.length)∧dm.rep.aF 203 24 w' w.heap.size (τ.ah cp) cp c1 (eo W l l.length)∧cd.rep.aF 153 40 w' w.heap.size (τ.ah cZ) cZ c2 (eG W l l.length)∧Ext w w'):=by
 obtain ⟨ck,a2⟩:=Sr h;refine (alW A c l rI W w ay bG).mono λ e w' he=> ?_;obtain ⟨hk,bZ,cp,c1,cZ,c2,(⟨κ,ab⟩ | ⟨κ,ab,aw⟩ | ⟨κ,ab,aw,a6,bH,ch⟩),hx⟩:=he
 ·exact absurd ck κ
 ·exact absurd a2 ab
 ·exact ⟨hk,bZ,cp,c1,cZ,c2,aw,a6,bH,ch,hx⟩
end
section
section
variable {F:List Nat} {P:Program} {ops:Array Oper} {Q:Exit→Act→World→Prop} {a7:Nat→Nat}
def vC (F:List Nat) (P:Program) (ops:Array Oper) (w0:World) (o:Oper) (v:Value) (a:Act):Prop :=
  (Region.wanted o (yielded ops a.tmps)=true∧∀ w,Mod F w0 w→zY P w v ((execOp a.eval o).run P w))∨
  (Region.wanted o (yielded ops a.tmps)=false∧v=undef)
theorem vC.of_same {w0:World} {o:Oper} {v:Value} {a a':Act} (h:vC F P ops w0 o v a) (he:execOp a'.eval o=execOp a.eval o) (hw:Region.wanted o (yielded ops a'.tmps)=Region.wanted o (yielded ops a.tmps)):vC F P ops w0 o v a':=by
  unfold vC at *;rw [he,hw];exact h
theorem vC.on {w0 aT:World} {o:Oper} {v:Value} {a:Act} (h:vC F P ops w0 o v a) (hx:Mod F w0 aT):vC F P ops aT o v a :=
  h.imp (λ ⟨κ,ab⟩=>⟨κ,λ w hw=>ab w (hx.trans hw)⟩) id
theorem Yields.aCf {w0:World} {o:Oper} {v:Value} {a:Act} (h:Yields P ops o v a):vC F P ops w0 o v a :=
  h.imp (λ ⟨κ,ab⟩=>⟨κ,λ w _=>by rw [ab w];exact ⟨rfl,rfl⟩⟩) id
def aDs (F:List Nat) (P:Program) (ops:Array Oper) (Q:Exit→Act→World→Prop) (a7:Nat→Nat) (i:Nat) (K:Act→World→Prop) (a:Act) (w0:World):Prop :=
  ∃ o,ops[i]? =some o∧
    ((a7 i≤1∧∃ v,vC F P ops w0 o v a∧K (a.put o.dst v) w0)∨
     (1<a7 i∧∀ w,Ext w0 w→wpOp P ops Q i (λ a' w'=>(a7 i=2→Mod F w0 w')∧K a' w') a w))
def KD (F:List Nat) (P:Program) (ops:Array Oper) (Q:Exit→Act→World→Prop) (a7:Nat→Nat):Nat→Array Bool→Act→World→Prop
  | 0,l,a,w0=>Region.ready .any ops l= []∧∀ w,Ext w0 w→Q .normal a w
  | f+1,l,a,w0=>(Region.ready .any ops l= []→∀ w,Ext w0 w→Q .normal a w)∧∀ i∈Region.ready .any ops l,aDs F P ops Q a7 i (KD F P ops Q a7 f (l.setIfInBounds i true)) a w0
theorem HA:∀ (f:Nat) (l:Array Bool) (a:Act) (w0:World),KD F P ops Q a7 f l a w0→∀ w,Ext w0 w→wpAny P .any ops Q f l a w
  | 0,_,_,_,h,w,hw=>⟨h.1,h.2 w hw⟩
  | f+1,l,a,w0,h,w,hw=>⟨λ aG=>h.1 aG w hw,λ i aq=>by
      obtain ⟨o,b4,ab⟩:=h.2 i aq;rcases ab with ⟨_,v,I,ar⟩ | ⟨_,ab⟩
      · unfold wpOp
        simp only [b4];rcases I with ⟨mN,I⟩ | ⟨mN,rfl⟩
        · rw [aR8 mN]
          refine .inl ?_;have I:=I w (Mod.bE hw);unfold Oper.wp;generalize (execOp a.eval o).run P w=r at *
          cases r with
          | ok n w' =>
            cases n<;>simp only [zY] at I<;>simp only [Oper.upon]
            case value u=>obtain ⟨rfl,rfl⟩:=I;exact HA f _ _ _ ar _ hw
            case skip=>obtain ⟨rfl,rfl⟩:=I;exact HA f _ _ _ ar _ hw
            case enter f' args=>obtain ⟨rfl,hc⟩:=I;exact hc.mono λ e lZ ⟨he,hx⟩=>by subst he;exact HA f _ _ _ ar _ (hw.uU hx)
          | halt x w'=>simp only [zY] at I
        · rw [aR5 (by rw [mN];decide)]
          exact HA f _ _ _ ar _ hw
      · exact aUg (λ a' w' aw=>HA f _ _ _ aw.2 _ (Ext.bN w')) (ab w hw)⟩
theorem afh {i:Nat} {dB:Oper} {v:Value} (aq:ops[i]? =some dB) (ar:a7 i≤1) (nO:∀ (j:Nat) (o:Oper) cs b,ops[j]? =some o→o.op≠ .select cs b)
    (iy:∀ c a w,¬ Q (.panic c) a w) (aD:World→Act→Prop) (lp:∀ w0 a,aD w0 a→vC F P ops w0 dB v a)
    (z2:∀ w0 a a',aD w0 a→execOp a'.eval dB=execOp a.eval dB→Region.wanted dB (yielded ops a'.tmps)=Region.wanted dB (yielded ops a.tmps)→aD w0 a')
    (z3:∀ w0 aT a,Mod F w0 aT→aD w0 a→aD aT a) (R:Nat→Bool) (xZ:Array Bool)
    (hR:∀ j dg,ops[j]? =some dg→j≠i→(∀ e∈dg.after,Region.binds .any e=true→R e.on=true)→R j=true)
    (bf:(∀ w0 aT a,aD w0 a→aD aT a)∨∀ j,R j=true→3≤a7 j→xZ.getD j true=true):
    ∀ (f:Nat) (l:Array Bool) (a:Act) (w0:World),(∀ j,l.getD j false=true→R j=true)→(∀ j,xZ.getD j true=true→l.getD j true=true)→
      (∀ j dg,ops[j]? =some dg→j≠i→l.getD j true=false→(∀ e∈dg.after,Region.binds .any e=true→e.on≠i)→dB.apart ops dg=true)→
      i∈Region.ready .any ops l→aD w0 a→KD F P ops Q a7 f (l.setIfInBounds i true) (a.put dB.dst v) w0→KD F P ops Q a7 (f+1) l a w0:=by
  intro f;induction f with
  | zero =>
    intro l a w0 _ _ _ hr bC H;refine ⟨λ h=>(by rw [h] at hr;cases hr),λ j az=> ?_⟩;by_cases hV:j=i
    · subst hV;exact ⟨dB,aq, .inl ⟨ar,v,lp _ _ bC,H⟩⟩
    · have:=aUp az hV
      rw [H.1] at this;cases this
  | succ f bx =>
    intro l a w0 DD DB Dx hr bC H;refine ⟨λ h=>(by rw [h] at hr;cases hr),λ j az=> ?_⟩;by_cases hV:j=i
    · subst hV;exact ⟨dB,aq, .inl ⟨ar,v,lp _ _ bC,H⟩⟩
    · obtain ⟨dg,k5,κ⟩:=H.2 j (aUp az hV)
      obtain ⟨xR,gL,DK,dK⟩:=aVu.1 az;obtain rfl:gL=dg:=by rw [k5] at DK;exact (aRV DK).symm
      have L_:∀ e∈gL.after,Region.binds .any e=true→e.on≠i:=λ e he Φ heq=>by
        have κ:=dK e he Φ;have aG:=(aVu.1 hr).1;rw [heq] at κ;rcases aSZ i l.size with c6 | c6
        · simp [c6] at aG κ;rw [aG] at κ;cases κ
        · simp [aSU c6] at κ
      have LH:=Dx j gL k5 hV xR L_;obtain ⟨ck,a2,a3⟩:=aWe LH;have Mk:∀ cs b,dB.op≠ .select cs b:=λ cs b=>nO i dB cs b aq;have xW:∀ cs b,gL.op≠ .select cs b:=λ cs b=>nO j gL cs b k5;have keep:∀ aT a u,aD aT a→aD aT (a.put gL.dst u):=λ aT a u bC=>z2 _ _ _ bC (aUA dB Mk a gL.dst u a3) (aUL dB a gL.dst u a3);have Dp:R j=true:=hR j gL k5 hV λ e he Φ=>DD _ (dK e he Φ);have DE:∀ k,(l.setIfInBounds j true).getD k false=true→R k=true:=λ k ar=>by
        by_cases g_:j=k
        · rw [← g_];exact Dp
        · rw [aUa false g_] at ar;exact DD k ar
      have DC:∀ k,xZ.getD k true=true→(l.setIfInBounds j true).getD k true=true:=λ k ar=>by
        by_cases g_:j=k
        · subst g_
          rcases aSZ j l.size with c6 | c6
          · simp [c6]
          · simp [aSU c6]
        · rw [aUa true g_];exact DB k ar
      have Dy:∀ k ok,ops[k]? =some ok→k≠i→(l.setIfInBounds j true).getD k true=false→
          (∀ e∈ok.after,Region.binds .any e=true→e.on≠i)→dB.apart ops ok=true:=λ k ok ar p' DN j5=>by
        refine Dx k ok ar p' ?_ j5;by_cases g_:j=k
        · subst g_;exact xR
        · rw [aUa true g_] at DN;exact DN
      have DM:=aUp hr (aUF hV);rcases κ with ⟨xS,u,I,hK⟩ | ⟨xS,κ⟩
      · refine ⟨gL,k5, .inl ⟨xS,u,I.of_same (aUA gL xW a dB.dst v ck).symm (aUL gL a dB.dst v ck).symm, ?_⟩⟩
        refine bx _ _ _ DE DC Dy DM (keep _ _ _ bC) ?_;rw [aTr _ _ hV,← aTY a v u a2];exact hK
      · refine ⟨gL,k5, .inr ⟨xS,λ w hw=> ?_⟩⟩
        refine aUg (λ a' w' aw=>⟨aw.2.1, ?_⟩) (aag (aD:=aD w0) k5 ck a2 xW iy (keep w0) (λ a d bC=>z2 _ _ _ bC Z Z) bC (κ w hw));have Mo:aD w' a':=by
          rcases aSZ (a7 j) 3 with bz | uG
          · exact z3 _ _ _ (aw.2.1 (by omega)) aw.1
          · rcases bf with bf | bf
            · exact bf _ _ _ aw.1
            · have:=DB j (bf j Dp uG);rw [xR] at this;cases this
        refine bx _ _ _ DE DC Dy DM Mo ?_;rw [aTr _ _ hV];exact aw.2.2
def JJ (F:List Nat) (P:Program) (ops:Array Oper) (Q:Exit→Act→World→Prop) (a7:Nat→Nat):List Nat→Act→World→Prop
  | [],a,w0=>∀ w,Ext w0 w→Q .normal a w
  | i::r,a,w0=>∃ o,ops[i]? =some o∧
      ((a7 i=0∧∃ v,vC F P ops w0 o v a∧JJ F P ops Q a7 r (a.put o.dst v) w0)∨
       (a7 i=1∧∃ v,Yields P ops o v a∧JJ F P ops Q a7 r (a.put o.dst v) w0)∨
       (1<a7 i∧∀ w,Ext w0 w→wpOp P ops Q i (λ a' w'=>(a7 i=2→Mod F w0 w')∧JJ F P ops Q a7 r a' w') a w))
theorem Pg (hs:Region.noSelect ops=true) (iy:∀ c a w,¬ Q (.panic c) a w):∀ (r:List Nat) (l:Array Bool) (a:Act) (w0:World),l.size=ops.size→kI ops a7 r l=true→JJ F P ops Q a7 r a w0→KD F P ops Q a7 r.length l a w0
  | [],l,a,w0,_,bf,h=>⟨by simpa [kI] using bf,h⟩
  | i::r,l,a,w0,ay,bf,h=>by
    obtain ⟨o,b4,h⟩:=h;have nO:=aUC hs;rcases h with ⟨ar,v,I,hK⟩ | ⟨ar,v,I,hK⟩ | ⟨ar,h⟩
    · simp only [kI,ar,aR2] at bf
      obtain ⟨⟨⟨hf,hr⟩,Φ⟩,bf⟩:=bf;obtain ⟨R,r1,r2,yr⟩:=Pq ay Φ;exact afh b4 (by omega) nO iy (λ w0 a=>vC F P ops w0 o v a) (λ _ _ h=>h) (λ _ _ _ h he hw=>h.of_same he hw) (λ _ _ _ hx h=>h.on hx) R l r1 (.inr yr) _ _ _ _ r2 (λ _ h=>h) (aTH b4 hf) (by simpa using hr) I
        (Pg hs iy r _ _ _ (by simpa using ay) bf hK)
    · simp only [kI,ar,aR2] at bf
      obtain ⟨⟨hf,hr⟩,bf⟩:=bf;exact afh b4 (by omega) nO iy (λ _ a=>Yields P ops o v a) (λ _ _ h=>Yields.aCf h) (λ _ _ _ h he hw=>h.of_same he hw) (λ _ _ _ _ h=>h) (λ _=>true) l (λ _ _ _ _ _=>Z) (.inl λ _ _ _ h=>h) _ _ _ _ (λ _ _=>Z) (λ _ h=>h) (aTH b4 hf) (by simpa using hr) I
        (Pg hs iy r _ _ _ (by simpa using ay) bf hK)
    · obtain ⟨k,iA⟩:∃ k,a7 i=k+2:=⟨a7 i - 2,by omega⟩
      simp only [kI,iA,aR2,aST] at bf;obtain ⟨hr,bf⟩:=bf;refine ⟨λ aG=>(by rw [hr] at aG;cases aG),λ j az=> ?_⟩;rw [hr] at az;obtain rfl:j=i:=by simpa using az
      exact ⟨o,b4, .inr ⟨ar,λ w hw=>aUg (λ a' w' aw=>⟨aw.1,Pg hs iy r _ _ _ (by simpa using ay) bf aw.2⟩) (h w hw)⟩⟩
theorem aCq {id:Nat} {a:Act} {w:World} (b1:List Nat) (hm:P.follows .mixedOrders=true) (bf:(Region.noSelect ops && (b1.length == ops.size) && kI ops a7 b1 (Array.replicate ops.size false))=true)
    (h:JJ F P ops (hC (Q .normal)) a7 b1 a w):(Code.region id ops true).wp P Q a w:=by
  simp only [aR2,aST] at bf;obtain ⟨⟨hs,ay⟩,bf⟩:=bf;refine wp_mono (aVD hm (Q:=hC (Q .normal)) ?_) (λ e a w I=>by cases e<;>first | exact I | exact I.elim);have:=Pg (P:=P) hs (Q:=hC (Q .normal)) (λ _ _ _ h=>h) b1 (Array.replicate ops.size false) a w (by simp) bf h;rw [ay] at this;exact HA _ _ _ _ this _ (aSr _ w).drew
end
section
variable {F:List Nat} {P:Program} {n:Nat} {E cU:List (Nat×Value)} {a:Act} {w w' w0 aT:World} {Q:Exit→Act→World→Prop} {ops:Array Oper} {v:Value} {a7:Nat→Nat}
variable {d:Option Nat} {ty:TypeId} {pos:String} {af:Array Edge} {g:Option (Nat×Bool)} {x y z:Operand} {t:TypeId} {rest:List Oper} {b1:List Nat} {i:Nat}
def y0 (F:List Nat) (P:Program) (n:Nat) (ops:Array Oper) (Q:Exit→Act→World→Prop) (a7:Nat→Nat) (b1:List Nat) (E:List (Nat×Value)) (w0:World):Prop:=∀ a,ep n E a→JJ F P ops (hC (Q .normal)) a7 b1 a w0
theorem Se {id:Nat} (F:List Nat) (na:List (Nat×Nat)) (b1:List Nat) (hm:P.follows .mixedOrders=true) (bf:(Region.noSelect ops && (b1.length == ops.size) && kI ops (pk na) b1 (Array.replicate ops.size false))=true)
    (h:y0 F P n ops Q (pk na) b1 E w):W P n (.region id ops true) Q E w:=λ a ha=>aCq b1 hm bf (h a ha)
theorem Qn (h:∀ w,Ext w0 w→N n Q E w):y0 F P n ops Q a7 [] E w0:=λ a ha w hw=>h w hw a ha
theorem zx {d:Nat} {op:Op} (aq:ops[i]? =some ⟨some d,op,ty,pos,af,none⟩) (ar:a7 i=0) (hr:∀ w,Mod F w0 w→cW P E ⟨some d,op,ty,pos,af,none⟩ w v w) (hd:Nat.blt d n=true)
    (h:y0 F P n ops Q a7 b1 ((d,v)::E) w0):y0 F P n ops Q a7 (i::b1) E w0:=λ a ha =>
  ⟨_,aq, .inl ⟨ar,v, .inl ⟨Ck rfl,λ w hw=>by rw [hr w hw n a ha];exact ⟨rfl,rfl⟩⟩,h _ (ha.put hd v)⟩⟩
theorem jX {d:Nat} {op:Op} (aq:ops[i]? =some ⟨some d,op,ty,pos,af,none⟩) (ar:a7 i=1) (hr:∀ w,cW P E ⟨some d,op,ty,pos,af,none⟩ w v w) (hd:Nat.blt d n=true)
    (h:y0 F P n ops Q a7 b1 ((d,v)::E) w0):y0 F P n ops Q a7 (i::b1) E w0:=λ a ha =>
  ⟨_,aq, .inr (.inl ⟨ar,v, .inl ⟨Ck rfl,λ w=>hr w n a ha⟩,h _ (ha.put hd v)⟩)⟩
theorem FI {o:Oper} (aO:o.guard=none) (aq:ops[i]? =some o) (ar:a7 i=2) (h:∀ w,Ext w0 w→Fj P n ops o E w λ cU w'=>Mod F w0 w'∧y0 F P n ops Q a7 b1 cU w'):y0 F P n ops Q a7 (i::b1) E w0:=λ a ha =>
  ⟨_,aq, .inr (.inr ⟨by omega,λ w hw=>Jg aO aq (h w hw) (λ cU w' a' ar r3=>⟨λ _=>ar.1,ar.2 a' r3⟩) ha⟩)⟩
theorem VN {o:Oper} (aO:o.guard=none) (aq:ops[i]? =some o) (ar:a7 i=3) (h:∀ w,Ext w0 w→Fj P n ops o E w λ cU w'=>y0 F P n ops Q a7 b1 cU w'):y0 F P n ops Q a7 (i::b1) E w0:=λ a ha =>
  ⟨_,aq, .inr (.inr ⟨by omega,λ w hw=>Jg aO aq (h w hw) (λ cU w' a' ar r3=>⟨λ ab=>by omega,ar a' r3⟩) ha⟩)⟩
end
end
end Go.Proofs.YtmeeljmapailnaaGreat
