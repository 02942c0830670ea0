import Derived.Test.YtmeeljmapailnaaGreatTroF
set_option linter.unusedVariables false
set_option linter.unusedSimpArgs false
set_option maxRecDepth 100000
set_option maxHeartbeats 4000000
open Go.RowKit
namespace Go.Proofs.YtmeeljmapailnaaGreat
open Tryz
abbrev aYQ:=@Go.World.cell?_of_block
section
theorem pe {n lo ar:Int} {b:Bool} (h:c9 n lo ar=b) (w:World):Calls prog 113 #[.int .i64 n, .int .i64 lo, .int .i64 ar] w λ e w'=>e= .returned (.bool b)∧w=w':=by
 have:=Tk n lo ar w;rw [h] at this;exact this
theorem dP.drewN {κ:Type} {key:κ→Value} {w:World} {b:Nat} {l:List (κ×Int×Nat)} {clock:Nat} (h:dP key w b l clock) (n:Nat):dP key (w.drewN n) b l clock:=⟨h.gV,h.born,h.stamps⟩
theorem aer (w:World):w.drewN 1=w.drew:=rfl
theorem aR.of_heap {w w':World} {g:Nat} {cur:List Value} {e:TypeId} {aD:Nat×Nat} (h:aR w g cur e aD) (fI:w'.heap[g]? =w.heap[g]?):aR w' g cur e aD:=fI.trans h
theorem ae6 {w:World} {b:Nat} {l:List (az×Int×Nat)} {lB:Nat} (h:dP az.key w b l lB) (hw:∀ e∈l,e.1.ok) (hn:(l.map (·.1)).Nodup) (x:az) (hx:x.ok) (v:Int) (hv:(dP.get l x).getD 0=v):
  ∃ (st:Nat) (cz:List (az×Int×Nat)) (c1:Nat) (Gu si:World),
   (∀ n,(Instr.lookup 205 (.map (some b)) (.agg #[.int .i64 x.x, .int .i64 x.y]) false).run prog (w.drewN n)= .ok (.int .i64 v) (w.drewN n))∧
   (∀ n,(Instr.mapEntry 205 (.map (some b)) (.agg #[.int .i64 x.x, .int .i64 x.y])).run prog (w.drewN n)= .ok (.tuple #[.int .i64 v, .int .i64 (st:Int)]) (Gu.drewN n))∧
   (∀ n,(Instr.lookup 205 (.map (some b)) (.agg #[.int .i64 x.x, .int .i64 x.y]) false).run prog (Gu.drewN n)= .ok (.int .i64 v) (Gu.drewN n))∧
   (∀ n,(Instr.entryStore 205 (.map (some b)) (.int .i64 (st:Int)) (.int .i64 (v+1))).run prog (Gu.drewN n)= .ok () (si.drewN n))∧
   (∀ n,(Instr.lookup 205 (.map (some b)) (.agg #[.int .i64 x.x, .int .i64 x.y]) false).run prog (si.drewN n)= .ok (.int .i64 (v+1)) (si.drewN n))∧
   dP az.key si b (dP.put l lB x (v+1)) (dP.tick l lB x)∧
   (∀ p:Addr,p.block≠b→Gu.cell? p=w.cell? p)∧(∀ p:Addr,p.block≠b→si.cell? p=w.cell? p)∧
   ∀ {B:Nat} {a:World},B≤b→(Below B a w→Below B a si)∧(∀ g,g≠b→si.heap[g]? =w.heap[g]?):=by
 obtain ⟨st,cz,d',aY,bb,cP,jq,E6,E7⟩:=dP.entry az.zG underlying205 aXP h hw hn x hx;have Ds:=λ n=>(dP.lookup (w:=w.drewN n) az.zG underlying205 (aXP _) (h.drewN n) hw hn x hx).1;have Dt:=λ n=>(dP.lookup (w:=(ji w b (cz.map (dS az.key)).toArray d').drewN n) az.zG underlying205 (aXP _) (bb.drewN n) cP jq x hx).1;have hp:=(E7 (v+1) 0).2;have Du:=λ n=>(dP.lookup (w:=(ji w b ((dP.put l lB x (v+1)).map (dS az.key)).toArray (dP.tick l lB x)).drewN n) az.zG underlying205 (aXP _) (hp.drewN n) (dP.Y4 hw hx) (dP.IE hn lB x (v+1)) x hx).1;simp only [E6,hv,aUM] at Ds Dt aY;simp only [dP.Bk,aTO,aUM] at Du;exact ⟨st,cz,d',_,_,Ds,aY,Dt,λ n=>(E7 (v+1) n).1,Du,hp,λ p hp=>aYQ (Ns hp),λ p hp=>aYQ (Ns hp),
  fun {B a} bj=>⟨λ γ=>aFh γ bj,λ g aM=>Ns aM⟩⟩
theorem aGf (a:ak.b_) (W:ak) (w:World) (b4:ak.Has w a W) (aK:W.field.bn=0) (fq:W.a7.length≤8) (xo:W.aq.length≤100):
  Calls prog 67 #[.agg (ak.cells a W).toArray] w λ e w'=>e= .returned (.bool W.kC)∧Below w.heap.size w w':=by
 obtain ⟨fe,gq,gu,fF,fk,fv,fQ,gB,fX,fK⟩:=a;show Calls _ _ #[.agg #[.int .i64 W.field.wide, .int .i64 W.field.high, .slice fe W.field.a8.length fv, .slice gq W.a7.length fQ, .slice gu W.bp.length gB, .slice fF W.bM.length fX, .slice fk W.aq.length fK, .int .i64 W.next, .int .i64 W.now]] _ _;have cN:=lA w (.cells (ak.cells ⟨fe,gq,gu,fF,fk,fv,fQ,gB,fX,fK⟩ W).toArray 28);have jD:=aTG (aR.new w (ak.cells ⟨fe,gq,gu,fF,fk,fv,fQ,gB,fX,fK⟩ W) 28 (0,0));have mA:=aTG (b4.keep cN);obtain ⟨w0,jE⟩:∃ w0,Hid (w.alloc (.cells (ak.cells ⟨fe,gq,gu,fF,fk,fv,fQ,gB,fX,fK⟩ W).toArray 28)=w0):=⟨_,aTG rfl⟩;rw [jE.out] at cN mA;have jD:Hid (aR w0 w.heap.size (ak.cells ⟨fe,gq,gu,fF,fk,fv,fQ,gB,fX,fK⟩ W) 28 (0,0)):=by rw [← jE.out];exact jD
 obtain ⟨ek,i'⟩:∃ n,Hid (W.aq.length=n):=⟨_,aTG rfl⟩;obtain ⟨lI,kq⟩:∃ n,Hid (W.a7.length=n):=⟨_,aTG rfl⟩;have fq:lI≤8:=by rw [← kq.out];exact fq
 have xo:ek≤100:=by rw [← i'.out];exact xo
 have wG:=aTG aK;have CC:=aTG b4;obtain ⟨F',vI⟩:∃ F',wrap64 (W.next - 1)=F':=⟨_,rfl⟩;have abT:=aTG vI;have pA:Hid (w.alloc (.cells #[.int .i64 W.field.wide, .int .i64 W.field.high, .slice fe W.field.a8.length fv, .slice gq lI fQ, .slice gu W.bp.length gB, .slice fF W.bM.length fX, .slice fk ek fK, .int .i64 W.next, .int .i64 W.now] 28)=w0):=by rw [← jE.out,← kq.out,← i'.out];rfl
 obtain ⟨bo,c1,c2,c3,c4,c5,dQ,ed,eR⟩:=ak.tl jD.out;rw [kq.out] at c3;rw [i'.out] at dQ;clear b4 aK;have Re:=@run_makeMap prog;have Rb:=dP.made (key:=az.key) w0;have Xw:=lA w0 (.map #[] 0);obtain ⟨am2,ab2⟩:∃ am2,Hid (w0.alloc (.map #[] 0)=am2):=⟨_,aTG rfl⟩;rw [ab2.out] at Rb Xw;have jL:w0.heap.size=w.heap.size+1:=by rw [← jE.out];simp
 rw [jL] at Rb;have Ue:=aTG Rb;have Cx:Hid (∀ j,j<0→W.xX j=true):=aTG λ j aA=>absurd aA (by omega);clear Rb;go_enter func67,ntmps67;rw [kq.out,i'.out];go_wp2_with fail
 rw [pA.out,ab2.out];have abR:Hid (bW.aG 8 w fe fv W.field.a8):=aTG CC.out.P;have aoJ:Hid (bd.rep.aG 56 w fk fK W.aq):=aTG CC.out.T;have aNq:=xo;have Fl:=jD.out.later Xw;have agc:=cN.trans (Xw.mono cN.size);clear bo c1 c2 c3 c4 c5 dQ ed eR Re;obtain ⟨fS,Uf⟩:∃ fS,Hid (w.heap.size+1=fS):=⟨_,aTG rfl⟩;rw [Uf.out];rw [Uf.out] at Ue;go_loopw [3,6,7,8,9,14] (λ aBn _ _ _ _ ht wr=>∃ (k:Nat) (l:List (az×Int×Nat)) (lB:Nat),k≤ek∧ht= .int .i64 (k:Int)∧aBn= .int .i64 (W.jW k)∧Hid (∀ j,j<k→W.xX j=true)∧Hid (dP az.key wr fS l lB)∧Hid (∀ e∈l,e.1.ok)∧Hid ((l.map (·.1)).Nodup)∧Hid (∀ c,dP.get l c=if (W.jx k).contains c=true then some 1 else none)∧Hid (aR wr w.heap.size (ak.cells ⟨fe,gq,gu,fF,fk,fv,fQ,gB,fX,fK⟩ W) 28 (0,0))∧Below w.heap.size w wr) (λ _ _ _ _ _ ht _=>ek - (intOf ht).toNat)
 case atStart=>exact ⟨0, [],0,aUv _,rfl,rfl,Cx,Ue,(λ e he=>by simp at he),aXV,(λ c=>by simp [dP.get,ak.jx]),Fl,agc⟩
 case round =>
  clear Cx Ue Fl agc;obtain ⟨k,l,lB,au,rfl,rfl,ig,k8,OR,OH,Cv,G7,ma⟩:=hrel;obtain ⟨bo,c1,c2,c3,c4,c5,dQ,ed,eR⟩:=ak.tl G7.out;rw [kq.out] at c3;rw [i'.out] at dQ;by_cases bA:k<ek
  ·obtain ⟨t,aJ⟩:=gH (l:=W.aq) (i:=k) (by rw [i'.out];exact bA);have afR:=aoJ.out.keep ma;obtain ⟨b,o,rfl,jJ⟩:=bd.at_ afR (by rw [i'.out];omega);obtain ⟨Nb,eH,fa,mh,v_,aCZ,aQV⟩:=jJ k t aJ;obtain ⟨hZ,rT⟩:∃ hZ,wrap64 (W.jW k+1)=hZ:=⟨_,rfl⟩;have eA:W.xX k=(W.M7 hZ F' t && !(W.jx k).contains t.spot):=by
    unfold ak.xX;rw [aTB,aJ,rT,abT.out];rfl
   unfold ak.M7 at eA;rw [kq.out] at eA;have ag7:W.jW (k+1)=t.id:=by
    unfold ak.jW;rw [aTL (by omega),aTB,aXl,aJ];rfl
   have ahF:W.jx (k+1)=W.jx k++ [t.spot]:=by
    unfold ak.jx;rw [aT5 (by rw [i'.out];exact bA),aT8];have:W.aq[k]'(by rw [i'.out];exact bA)=t:=by
     rw [aTF (by rw [i'.out];exact bA)] at aJ;exact aTA aJ
    rw [this];rfl
   have abS:=aTG ag7;have abZ:=aTG ahF;have c8:=lA wr (.cells #[.int .i64 t.id, .int .i64 t.owner, .int .i64 t.kind, .int .i64 t.spot.x, .int .i64 t.spot.y, .int .i64 t.dk, .int .i64 t.load] 57);have afM:=aR.new wr t.cells 57 (0,0);obtain ⟨aS,Kh⟩:∃ aS,Hid (wr.alloc (.cells #[.int .i64 t.id, .int .i64 t.owner, .int .i64 t.kind, .int .i64 t.spot.x, .int .i64 t.spot.y, .int .i64 t.dk, .int .i64 t.load] 57)=aS):=⟨_,aTG rfl⟩;rw [Kh.out] at c8;have Cu:Hid (aR aS wr.heap.size t.cells 57 (0,0)):=by rw [← Kh.out];exact afM
   have X0:fS<wr.heap.size:=k8.out.lt;have agZ:w.heap.size<fS:=by have:=Uf.out;omega
   have pY:(k:Int)<(ek:Int):=by omega
   have oX:(0:Int)≤(k:Int):=by omega
   clear afR jJ aJ ag7 ahF afM vI;have vI:=abT.out;by_cases pX:t.kind=1
   ·have AJ:=aTG pX;rw [pX] at fa;clear pX;have J':=aTG (λ V:World=>aje V);have LS:ak.kS 1=10:=rfl;have LU:ak.BO 1=5:=rfl;rw [AJ.out,LS,LU] at eA;have k9:=aTG eA;clear LS LU eA;have Um:Hid (wr.alloc (.cells #[.int .i64 t.id, .int .i64 t.owner, .int .i64 1, .int .i64 t.spot.x, .int .i64 t.spot.y, .int .i64 t.dk, .int .i64 t.load] 57)=aS):=by rw [← Kh.out,AJ.out];rfl
    go_wp2_with fail
    rw [Um.out];refine (J'.out _).mono ?_;rintro e cS ⟨rfl,bF⟩;have vG:=c8.trans (bF.mono c8.size);have dZ:=lA cS (.cells #[.int .i64 10, .int .i64 1, .int .i64 1, .int .i64 5] 61);have Bm:=aR.new cS [.int .i64 10, .int .i64 1, .int .i64 1, .int .i64 5] 61 (0,0);obtain ⟨w3,EH⟩:∃ w3,Hid (cS.alloc (.cells #[.int .i64 10, .int .i64 1, .int .i64 1, .int .i64 5] 61)=w3):=⟨_,aTG rfl⟩;rw [EH.out] at dZ;have Bm:aR w3 cS.heap.size [.int .i64 10, .int .i64 1, .int .i64 1, .int .i64 5] 61 (0,0):=by rw [← EH.out];exact Bm
    have Bx:w3.cell? ⟨cS.heap.size,0,none⟩=some (.int .i64 10):=Bm.cell 0;have rL:=vG.trans (dZ.mono vG.size);have EC:=aTG ((Cu.out.later bF).later dZ);have Ka:=aTG (k8.out.later rL);have EB:=aTG (G7.out.later rL);have Fx:=ma.trans (rL.mono ma.size);have J9:=aTG (abR.out.keep Fx);obtain ⟨t0,t1,t2,t3,t4,t5,t6⟩:=bd.gV ((Cu.out.later bF));rw [AJ.out] at t2;clear bo c1 c2 c3 c4 c5 dQ ed eR;obtain ⟨bo,c1,c2,c3,c4,c5,dQ,ed,eR⟩:=ak.tl (G7.out.later vG);rw [kq.out] at c3;rw [i'.out] at dQ;have agf:wr.heap.size<cS.heap.size:=by have:=bF.size;have:=Cu.out.lt;omega
    have agh:w.heap.size<cS.heap.size:=by have:=X0;omega
    go_wp2_with fail
    rw [EH.out];clear t0 t1 t2 t3 t4 t5 t6 bo c1 c2 c3 c4 c5 dQ ed eR;obtain ⟨t0,t1,t2,t3,t4,t5,t6⟩:=bd.gV EC.out;obtain ⟨bo,c1,c2,c3,c4,c5,dQ,ed,eR⟩:=ak.tl EB.out;rw [kq.out] at c3;rw [i'.out] at dQ;rw [AJ.out] at t2;clear bF Bm dZ vG;cases aK:c9 t.id hZ F' with
    | false =>
     have cB:Hid (W.kC=false):=ak.uy (k:=k) (by rw [i'.out];exact bA) (by rw [k9.out,aK];simp);have AA:=aTG aK;clear aK;refine (pe AA.out _).mono ?_;rintro e w' ⟨rfl,rfl⟩;go_wp2_with fail
     go_ret;exact ⟨iq cB.out.symm,Fx⟩
    | true =>
     have AA:=aTG aK;clear aK;refine (pe AA.out _).mono ?_;rintro e w' ⟨rfl,rfl⟩;go_wp2_with fail
     cases τ:c9 t.owner 0 ((lI:Int) - 1) with
     | false =>
      have cB:Hid (W.kC=false):=ak.uy (k:=k) (by rw [i'.out];exact bA) (by rw [k9.out,τ];simp);have fZ:=aTG τ;clear τ;refine (pe fZ.out _).mono ?_;rintro e w' ⟨rfl,rfl⟩;go_wp2_with fail
      go_ret;exact ⟨iq cB.out.symm,Fx⟩
     | true =>
      have fZ:=aTG τ;clear τ;refine (pe fZ.out _).mono ?_;rintro e w' ⟨rfl,rfl⟩;go_wp2_with fail
      cases ae:W.field.ground t.spot with
      | false =>
       have cB:Hid (W.kC=false):=ak.uy (k:=k) (by rw [i'.out];exact bA) (by rw [k9.out,ae];simp);have wI:=aTG ae;clear ae;have k7:=Le W.field t.spot fe fv _ J9.out wG.out;rw [wI.out] at k7;refine k7.mono ?_;rintro e uC ⟨rfl,dK⟩;have Fu:=rL.trans (dK.mono rL.size);have xu:=ma.trans (Fu.mono ma.size);have ED:=aTG (EC.out.later dK);have Kb:=aTG (Ka.out.later dK);have J8:=aTG (EB.out.later dK);clear t0 t1 t2 t3 t4 t5 t6 bo c1 c2 c3 c4 c5 dQ ed eR k7;obtain ⟨t0,t1,t2,t3,t4,t5,t6⟩:=bd.gV ED.out;have Bx:=cell_later dK Bx;go_wp2_with fail
       go_ret;exact ⟨iq cB.out.symm,xu⟩
      | true =>
       have wI:=aTG ae;clear ae;have k7:=Le W.field t.spot fe fv _ J9.out wG.out;rw [wI.out] at k7;refine k7.mono ?_;rintro e uC ⟨rfl,dK⟩;have Fu:=rL.trans (dK.mono rL.size);have xu:=ma.trans (Fu.mono ma.size);have ED:=aTG (EC.out.later dK);have Kb:=aTG (Ka.out.later dK);have J8:=aTG (EB.out.later dK);clear t0 t1 t2 t3 t4 t5 t6 bo c1 c2 c3 c4 c5 dQ ed eR k7;obtain ⟨t0,t1,t2,t3,t4,t5,t6⟩:=bd.gV ED.out;have Bx:=cell_later dK Bx;go_wp2_with fail
       cases aw:c9 t.dk 1 10 with
       | false =>
        have cB:Hid (W.kC=false):=ak.uy (k:=k) (by rw [i'.out];exact bA) (by rw [k9.out,aw];simp);have AB:=aTG aw;clear aw;refine (pe AB.out _).mono ?_;rintro e w' ⟨rfl,rfl⟩;go_wp2_with fail
        go_ret;exact ⟨iq cB.out.symm,xu⟩
       | true =>
        have AB:=aTG aw;clear aw;refine (pe AB.out _).mono ?_;rintro e w' ⟨rfl,rfl⟩;go_wp2_with fail
        cases aU:c9 t.load 0 5 with
        | false =>
         have cB:Hid (W.kC=false):=ak.uy (k:=k) (by rw [i'.out];exact bA) (by rw [k9.out,aU];simp);have AD:=aTG aU;clear aU;refine (pe AD.out _).mono ?_;rintro e w' ⟨rfl,rfl⟩;go_wp2_with fail
         go_ret;exact ⟨iq cB.out.symm,xu⟩
        | true =>
         have AD:=aTG aU;clear aU;refine (pe AD.out _).mono ?_;rintro e w' ⟨rfl,rfl⟩;go_wp2_with fail
         have Bt:t.spot.ok:=by
          obtain ⟨i1,i2,i3,i4,i5,i6⟩:=aI.idx wG.out (aI.ke wI.out);obtain ⟨g1,g2,g3,g4,_,_⟩:=aI.ks wG.out;exact ⟨bY.2 (by omega),bY.2 (by omega)⟩
         obtain ⟨v,AM⟩:∃ v,Hid ((dP.get l t.spot).getD 0=v):=⟨_,aTG rfl⟩;obtain ⟨st,cz,d',Gu,si,CD⟩:=ae6 Kb.out OR.out OH.out t.spot Bt v AM.out;obtain ⟨Ds,aY,Dt,f1,Du,FG,L_,L',Bp⟩:=CD;have azD:0≤v∧v≤1:=by
          rw [← AM.out,Cv.out];split<;>simp
         have Ud:=aTG FG;have aoX:=aTG L_;have AI:=aTG L';have Ic:=(Bp (Nat.le_of_lt agZ)).1 xu;have Ay:=aTG (J8.out.of_heap ((Bp (B:=0) (a:=uC) (aUv _)).2 _ (by omega)));have r0:si.cell? ⟨wr.heap.size,0,none⟩=some (.int .i64 t.id):=(AI.out _ (by simp;omega)).trans t0;have se:si.cell? ⟨wr.heap.size,3,none⟩=some (.int .i64 t.spot.x):=(AI.out _ (by simp;omega)).trans t3;have ZE:si.cell? ⟨wr.heap.size,4,none⟩=some (.int .i64 t.spot.y):=(AI.out _ (by simp;omega)).trans t4;have g1:=Ds 1;have g2:=aY 1;have g3:=Dt 1;have g4:=f1 1;have g5:=Du 1;clear FG L_ L' Bp Ds aY Dt f1 Du;simp only [aer] at g1 g2 g3 g4 g5;cases rP:(W.jx k).contains t.spot with
         | true =>
          have oZ:v=1:=by rw [← AM.out,Cv.out,rP];rfl
          subst oZ;rw [show (1:Int)+1=2 from rfl] at g4 g5;have cB:Hid (W.kC=false):=ak.uy (k:=k) (by rw [i'.out];exact bA) (by rw [k9.out,rP];simp);clear rP
          go_region
          go_wp2_with fail
          go_ret;exact ⟨iq cB.out.symm,below_drewN Ic 1⟩
         | false =>
          have oZ:v=0:=by rw [← AM.out,Cv.out,rP];rfl
          subst oZ;rw [show (0:Int)+1=1 from rfl] at g4 g5;have pz:Hid (∀ j,j<k+1→W.xX j=true):=by
           intro j aA;by_cases hb:j<k
           ·exact ig.out j hb
           ·obtain rfl:j=k:=by omega
            rw [k9.out,AA.out,fZ.out,wI.out,AB.out,AD.out,rP];rfl
          have Ub:Hid (∀ c,dP.get (dP.put l lB t.spot (0+1)) c=if (W.jx (k+1)).contains c=true then some 1 else none):=by
           intro c;rw [dP.Bk,abZ.out,Cv.out];by_cases FA:c=t.spot
           ·simp [FA]
           ·rw [aTL FA];simp [FA]
          have Uo:Hid (∀ e∈dP.put l lB t.spot (0+1),e.1.ok):=dP.Y4 OR.out Bt;have Uc:Hid (((dP.put l lB t.spot (0+1)).map (·.1)).Nodup):=dP.IE OH.out _ _ _;clear rP Bt
          go_region
          go_wp2_with fail
          go_roundw
          case rel=>exact ⟨k+1,_,_,by omega,by go_num,by rw [abS.out],pz,Ud.out.drewN 1,Uo,Uc,Ub,Ay.out.drewN 1,below_drewN Ic 1⟩
          case measure=>simp [intOf];omega
   ·by_cases ff:t.kind=2
    ·have AJ:=aTG ff;rw [ff] at fa;clear pX ff;have J':=aTG (λ V:World=>ajf V);have LS:ak.kS 2=20:=rfl;have LU:ak.BO 2=0:=rfl;rw [AJ.out,LS,LU] at eA;have k9:=aTG eA;clear LS LU eA;have Um:Hid (wr.alloc (.cells #[.int .i64 t.id, .int .i64 t.owner, .int .i64 2, .int .i64 t.spot.x, .int .i64 t.spot.y, .int .i64 t.dk, .int .i64 t.load] 57)=aS):=by rw [← Kh.out,AJ.out];rfl
     go_wp2_with fail
     rw [Um.out];refine (J'.out _).mono ?_;rintro e cS ⟨rfl,bF⟩;have vG:=c8.trans (bF.mono c8.size);have dZ:=lA cS (.cells #[.int .i64 20, .int .i64 2, .int .i64 4, .int .i64 12] 61);have Bm:=aR.new cS [.int .i64 20, .int .i64 2, .int .i64 4, .int .i64 12] 61 (0,0);obtain ⟨w3,EH⟩:∃ w3,Hid (cS.alloc (.cells #[.int .i64 20, .int .i64 2, .int .i64 4, .int .i64 12] 61)=w3):=⟨_,aTG rfl⟩;rw [EH.out] at dZ;have Bm:aR w3 cS.heap.size [.int .i64 20, .int .i64 2, .int .i64 4, .int .i64 12] 61 (0,0):=by rw [← EH.out];exact Bm
     have Bx:w3.cell? ⟨cS.heap.size,0,none⟩=some (.int .i64 20):=Bm.cell 0;have rL:=vG.trans (dZ.mono vG.size);have EC:=aTG ((Cu.out.later bF).later dZ);have Ka:=aTG (k8.out.later rL);have EB:=aTG (G7.out.later rL);have Fx:=ma.trans (rL.mono ma.size);have J9:=aTG (abR.out.keep Fx);obtain ⟨t0,t1,t2,t3,t4,t5,t6⟩:=bd.gV ((Cu.out.later bF));rw [AJ.out] at t2;clear bo c1 c2 c3 c4 c5 dQ ed eR;obtain ⟨bo,c1,c2,c3,c4,c5,dQ,ed,eR⟩:=ak.tl (G7.out.later vG);rw [kq.out] at c3;rw [i'.out] at dQ;have agf:wr.heap.size<cS.heap.size:=by have:=bF.size;have:=Cu.out.lt;omega
     have agh:w.heap.size<cS.heap.size:=by have:=X0;omega
     go_wp2_with fail
     rw [EH.out];clear t0 t1 t2 t3 t4 t5 t6 bo c1 c2 c3 c4 c5 dQ ed eR;obtain ⟨t0,t1,t2,t3,t4,t5,t6⟩:=bd.gV EC.out;obtain ⟨bo,c1,c2,c3,c4,c5,dQ,ed,eR⟩:=ak.tl EB.out;rw [kq.out] at c3;rw [i'.out] at dQ;rw [AJ.out] at t2;clear bF Bm dZ vG;cases aK:c9 t.id hZ F' with
     | false =>
      have cB:Hid (W.kC=false):=ak.uy (k:=k) (by rw [i'.out];exact bA) (by rw [k9.out,aK];simp);have AA:=aTG aK;clear aK;refine (pe AA.out _).mono ?_;rintro e w' ⟨rfl,rfl⟩;go_wp2_with fail
      go_ret;exact ⟨iq cB.out.symm,Fx⟩
     | true =>
      have AA:=aTG aK;clear aK;refine (pe AA.out _).mono ?_;rintro e w' ⟨rfl,rfl⟩;go_wp2_with fail
      cases τ:c9 t.owner 0 ((lI:Int) - 1) with
      | false =>
       have cB:Hid (W.kC=false):=ak.uy (k:=k) (by rw [i'.out];exact bA) (by rw [k9.out,τ];simp);have fZ:=aTG τ;clear τ;refine (pe fZ.out _).mono ?_;rintro e w' ⟨rfl,rfl⟩;go_wp2_with fail
       go_ret;exact ⟨iq cB.out.symm,Fx⟩
      | true =>
       have fZ:=aTG τ;clear τ;refine (pe fZ.out _).mono ?_;rintro e w' ⟨rfl,rfl⟩;go_wp2_with fail
       cases ae:W.field.ground t.spot with
       | false =>
        have cB:Hid (W.kC=false):=ak.uy (k:=k) (by rw [i'.out];exact bA) (by rw [k9.out,ae];simp);have wI:=aTG ae;clear ae;have k7:=Le W.field t.spot fe fv _ J9.out wG.out;rw [wI.out] at k7;refine k7.mono ?_;rintro e uC ⟨rfl,dK⟩;have Fu:=rL.trans (dK.mono rL.size);have xu:=ma.trans (Fu.mono ma.size);have ED:=aTG (EC.out.later dK);have Kb:=aTG (Ka.out.later dK);have J8:=aTG (EB.out.later dK);clear t0 t1 t2 t3 t4 t5 t6 bo c1 c2 c3 c4 c5 dQ ed eR k7;obtain ⟨t0,t1,t2,t3,t4,t5,t6⟩:=bd.gV ED.out;have Bx:=cell_later dK Bx;go_wp2_with fail
        go_ret;exact ⟨iq cB.out.symm,xu⟩
       | true =>
        have wI:=aTG ae;clear ae;have k7:=Le W.field t.spot fe fv _ J9.out wG.out;rw [wI.out] at k7;refine k7.mono ?_;rintro e uC ⟨rfl,dK⟩;have Fu:=rL.trans (dK.mono rL.size);have xu:=ma.trans (Fu.mono ma.size);have ED:=aTG (EC.out.later dK);have Kb:=aTG (Ka.out.later dK);have J8:=aTG (EB.out.later dK);clear t0 t1 t2 t3 t4 t5 t6 bo c1 c2 c3 c4 c5 dQ ed eR k7;obtain ⟨t0,t1,t2,t3,t4,t5,t6⟩:=bd.gV ED.out;have Bx:=cell_later dK Bx;go_wp2_with fail
        cases aw:c9 t.dk 1 20 with
        | false =>
         have cB:Hid (W.kC=false):=ak.uy (k:=k) (by rw [i'.out];exact bA) (by rw [k9.out,aw];simp);have AB:=aTG aw;clear aw;refine (pe AB.out _).mono ?_;rintro e w' ⟨rfl,rfl⟩;go_wp2_with fail
         go_ret;exact ⟨iq cB.out.symm,xu⟩
        | true =>
         have AB:=aTG aw;clear aw;refine (pe AB.out _).mono ?_;rintro e w' ⟨rfl,rfl⟩;go_wp2_with fail
         cases aU:c9 t.load 0 0 with
         | false =>
          have cB:Hid (W.kC=false):=ak.uy (k:=k) (by rw [i'.out];exact bA) (by rw [k9.out,aU];simp);have AD:=aTG aU;clear aU;refine (pe AD.out _).mono ?_;rintro e w' ⟨rfl,rfl⟩;go_wp2_with fail
          go_ret;exact ⟨iq cB.out.symm,xu⟩
         | true =>
          have AD:=aTG aU;clear aU;refine (pe AD.out _).mono ?_;rintro e w' ⟨rfl,rfl⟩;go_wp2_with fail
          have Bt:t.spot.ok:=by
           obtain ⟨i1,i2,i3,i4,i5,i6⟩:=aI.idx wG.out (aI.ke wI.out);obtain ⟨g1,g2,g3,g4,_,_⟩:=aI.ks wG.out;exact ⟨bY.2 (by omega),bY.2 (by omega)⟩
          obtain ⟨v,AM⟩:∃ v,Hid ((dP.get l t.spot).getD 0=v):=⟨_,aTG rfl⟩;obtain ⟨st,cz,d',Gu,si,CD⟩:=ae6 Kb.out OR.out OH.out t.spot Bt v AM.out;obtain ⟨Ds,aY,Dt,f1,Du,FG,L_,L',Bp⟩:=CD;have azD:0≤v∧v≤1:=by
           rw [← AM.out,Cv.out];split<;>simp
          have Ud:=aTG FG;have aoX:=aTG L_;have AI:=aTG L';have Ic:=(Bp (Nat.le_of_lt agZ)).1 xu;have Ay:=aTG (J8.out.of_heap ((Bp (B:=0) (a:=uC) (aUv _)).2 _ (by omega)));have r0:si.cell? ⟨wr.heap.size,0,none⟩=some (.int .i64 t.id):=(AI.out _ (by simp;omega)).trans t0;have se:si.cell? ⟨wr.heap.size,3,none⟩=some (.int .i64 t.spot.x):=(AI.out _ (by simp;omega)).trans t3;have ZE:si.cell? ⟨wr.heap.size,4,none⟩=some (.int .i64 t.spot.y):=(AI.out _ (by simp;omega)).trans t4;have g1:=Ds 1;have g2:=aY 1;have g3:=Dt 1;have g4:=f1 1;have g5:=Du 1;clear FG L_ L' Bp Ds aY Dt f1 Du;simp only [aer] at g1 g2 g3 g4 g5;cases rP:(W.jx k).contains t.spot with
          | true =>
           have oZ:v=1:=by rw [← AM.out,Cv.out,rP];rfl
           subst oZ;rw [show (1:Int)+1=2 from rfl] at g4 g5;have cB:Hid (W.kC=false):=ak.uy (k:=k) (by rw [i'.out];exact bA) (by rw [k9.out,rP];simp);clear rP
           go_region
           go_wp2_with fail
           go_ret;exact ⟨iq cB.out.symm,below_drewN Ic 1⟩
          | false =>
           have oZ:v=0:=by rw [← AM.out,Cv.out,rP];rfl
           subst oZ;rw [show (0:Int)+1=1 from rfl] at g4 g5;have pz:Hid (∀ j,j<k+1→W.xX j=true):=by
            intro j aA;by_cases hb:j<k
            ·exact ig.out j hb
            ·obtain rfl:j=k:=by omega
             rw [k9.out,AA.out,fZ.out,wI.out,AB.out,AD.out,rP];rfl
           have Ub:Hid (∀ c,dP.get (dP.put l lB t.spot (0+1)) c=if (W.jx (k+1)).contains c=true then some 1 else none):=by
            intro c;rw [dP.Bk,abZ.out,Cv.out];by_cases FA:c=t.spot
            ·simp [FA]
            ·rw [aTL FA];simp [FA]
           have Uo:Hid (∀ e∈dP.put l lB t.spot (0+1),e.1.ok):=dP.Y4 OR.out Bt;have Uc:Hid (((dP.put l lB t.spot (0+1)).map (·.1)).Nodup):=dP.IE OH.out _ _ _;clear rP Bt
           go_region
           go_wp2_with fail
           go_roundw
           case rel=>exact ⟨k+1,_,_,by omega,by go_num,by rw [abS.out],pz,Ud.out.drewN 1,Uo,Uc,Ub,Ay.out.drewN 1,below_drewN Ic 1⟩
           case measure=>simp [intOf];omega
    ·have XT:c9 t.kind 1 2=false:=p1 (by omega);have cB:Hid (W.kC=false):=ak.uy (k:=k) (by rw [i'.out];exact bA) (by rw [eA,XT];rfl);have J':=aTG (λ V:World=>ajg t.kind V XT);have agv:(t.kind == 1)=false:=by simpa using pX
     clear eA XT pX ff;go_wp2_with fail
     rw [Kh.out];refine (J'.out _).mono ?_;rintro e cS ⟨rfl,bF⟩;have vG:=c8.trans (bF.mono c8.size);obtain ⟨t0,t1,t2,t3,t4,t5,t6⟩:=bd.gV ((Cu.out.later bF));clear bo c1 c2 c3 c4 c5 dQ ed eR;obtain ⟨bo,c1,c2,c3,c4,c5,dQ,ed,eR⟩:=ak.tl (G7.out.later vG);have agf:wr.heap.size<cS.heap.size:=by have:=bF.size;have:=Cu.out.lt;omega
     have agh:w.heap.size<cS.heap.size:=by have:=X0;omega
     go_wp2_with fail
     go_ret;exact ⟨iq cB.out.symm,(ma.trans (vG.mono ma.size)).trans ((lA _ _).mono (by omega))⟩
  ·obtain rfl:k=ek:=by omega
   have dD:∀ j,j<W.aq.length→W.xX j=true:=λ j aA=>ig.out j (by rw [i'.out] at aA;exact aA);have p0:W.kC=(c9 W.next 1 1000000 && c9 W.now 0 1000000):=by
    unfold ak.kC;rw [aUp.2 (λ j aA=>dD j (aUi.1 aA)),aWF]
   have AK:=aTG p0;clear dD p0 vI;cases τ:c9 W.next 1 1000000 with
   | false =>
    have H1:=aTG τ;clear τ;go_wp2_with fail
    refine (pe H1.out _).mono ?_;rintro e w' ⟨rfl,rfl⟩;go_wp2_with fail
    go_ret;exact ⟨iq (by rw [AK.out,H1.out];rfl),ma⟩
   | true =>
    have FD:=λ V=>Tk W.now 0 1000000 V;have H1:=aTG τ;rw [H1.out,aWF] at AK;clear τ;generalize c9 W.now 0 1000000=r2 at *
    go_wp2_with fail
    refine (pe H1.out _).mono ?_;rintro e w' ⟨rfl,rfl⟩;go_wp2_with fail
    refine (FD _).mono ?_;rintro e w' ⟨rfl,rfl⟩;go_wp2_with fail
    go_ret;exact ⟨iq AK.out.symm,ma⟩
end
section
theorem CY (a:ak.b_) (W:ak) (w:World) (b4:ak.Has w a W):
  Calls prog 34 #[.agg (ak.cells a W).toArray] w λ e w'=>e= .returned (.int .i64 W.bn)∧Below w.heap.size w w':=by
 have n_:=λ aK fq V (h:ak.Has V a W)=>aDo a W V h aK fq;have Rc:=λ V (h:ak.Has V a W)=>aB0 a W V h;have p0:=λ aK fq xo V (h:ak.Has V a W)=>aGf a W V h aK fq xo;obtain ⟨fe,gq,gu,fF,fk,fv,fQ,gB,fX,fK⟩:=a;show Calls _ _ #[.agg #[.int .i64 W.field.wide, .int .i64 W.field.high, .slice fe W.field.a8.length fv, .slice gq W.a7.length fQ, .slice gu W.bp.length gB, .slice fF W.bM.length fX, .slice fk W.aq.length fK, .int .i64 W.next, .int .i64 W.now]] _ _;have cN:=lA w (.cells (ak.cells ⟨fe,gq,gu,fF,fk,fv,fQ,gB,fX,fK⟩ W).toArray 28);have jD:=aTG (aR.new w (ak.cells ⟨fe,gq,gu,fF,fk,fv,fQ,gB,fX,fK⟩ W) 28 (0,0));have mA:=aTG (b4.keep cN);obtain ⟨w0,jE⟩:∃ w0,Hid (w.alloc (.cells (ak.cells ⟨fe,gq,gu,fF,fk,fv,fQ,gB,fX,fK⟩ W).toArray 28)=w0):=⟨_,aTG rfl⟩;rw [jE.out] at cN mA;have jD:Hid (aR w0 w.heap.size (ak.cells ⟨fe,gq,gu,fF,fk,fv,fQ,gB,fX,fK⟩ W) 28 (0,0)):=by rw [← jE.out];exact jD
 have hf:=afj W.field fe fv w0 mA.out.P;have pA:Hid (w.alloc (.cells #[.int .i64 W.field.wide, .int .i64 W.field.high, .slice fe W.field.a8.length fv, .slice gq W.a7.length fQ, .slice gu W.bp.length gB, .slice fF W.bM.length fX, .slice fk W.aq.length fK, .int .i64 W.next, .int .i64 W.now] 28)=w0):=by rw [← jE.out];rfl
 obtain ⟨bo,c1,c2,c3,c4,c5,dQ,ed,eR⟩:=ak.tl jD.out;clear b4;by_cases xx:W.field.bn=0
 ·by_cases LR:8<W.a7.length∨100<W.aq.length
  ·rw [ak.adp xx LR];rw [xx] at hf;have aoL:=aTG LR;clear LR xx n_ Rc p0;generalize W.field.a8.length=M4 at *
   generalize W.a7.length=lI at *
   generalize W.bp.length=ns at *
   generalize W.bM.length=nm at *
   generalize W.aq.length=ek at *
   go_enter func34,ntmps34;go_wp2_with fail
   rw [pA.out];refine hf.mono ?_;rintro e cS ⟨rfl,bF⟩;have d3:=cell_later bF c3;have d6:=cell_later bF dQ;have key:decide ((8:Int)<(lI:Int))=true∨(decide ((8:Int)<(lI:Int))=false∧decide ((100:Int)<(ek:Int))=true):=by
    have:=aoL.out;simp;omega
   clear bo c1 c2 c3 c4 c5 dQ ed eR;rcases key with h | ⟨h,ae⟩
   all_goals
    go_wp2_with fail
    go_ret;exact ⟨Z,cN.trans (bF.mono cN.size)⟩
  ·rw [ak.Vs xx LR];have fq:W.a7.length≤8:=by omega
   have xo:W.aq.length≤100:=by omega
   have n_:=n_ xx fq;have p0:=p0 xx fq xo;rw [xx] at hf;have g1:decide ((8:Int)<(W.a7.length:Int))=false:=by simp;omega
   have g2:decide ((100:Int)<(W.aq.length:Int))=false:=by simp;omega
   have EF:=aTG (λ V (h:Below w0.heap.size w0 V)=>n_ V (mA.out.keep h));have G_:=aTG (λ V (h:Below w0.heap.size w0 V)=>Rc V (mA.out.keep h));have AK:=aTG (λ V (h:Below w0.heap.size w0 V)=>p0 V (mA.out.keep h));rw [ak.asa] at EF G_ AK;have EF:Hid (∀ V,Below w0.heap.size w0 V→Calls prog 65 #[.agg #[.int .i64 W.field.wide, .int .i64 W.field.high, .slice fe W.field.a8.length fv, .slice gq W.a7.length fQ, .slice gu W.bp.length gB, .slice fF W.bM.length fX, .slice fk W.aq.length fK, .int .i64 W.next, .int .i64 W.now]] V λ e w'=>e= .returned (.bool W.oj)∧Below V.heap.size V w'):=EF;have G_:Hid (∀ V,Below w0.heap.size w0 V→Calls prog 66 #[.agg #[.int .i64 W.field.wide, .int .i64 W.field.high, .slice fe W.field.a8.length fv, .slice gq W.a7.length fQ, .slice gu W.bp.length gB, .slice fF W.bM.length fX, .slice fk W.aq.length fK, .int .i64 W.next, .int .i64 W.now]] V λ e w'=>e= .returned (.bool W.o')∧Below V.heap.size V w'):=G_;have AK:Hid (∀ V,Below w0.heap.size w0 V→Calls prog 67 #[.agg #[.int .i64 W.field.wide, .int .i64 W.field.high, .slice fe W.field.a8.length fv, .slice gq W.a7.length fQ, .slice gu W.bp.length gB, .slice fF W.bM.length fX, .slice fk W.aq.length fK, .int .i64 W.next, .int .i64 W.now]] V λ e w'=>e= .returned (.bool W.kC)∧Below V.heap.size V w'):=AK;clear LR xx n_ Rc p0 fq xo;generalize W.oj=r1 at *
   generalize W.o'=r2 at *
   generalize W.kC=se at *
   generalize W.field.a8.length=M4 at *
   generalize W.a7.length=lI at *
   generalize W.bp.length=ns at *
   generalize W.bM.length=nm at *
   generalize W.aq.length=ek at *
   have ux:=hf;clear hf;cases r1 with
   | false =>
    go_enter func34,ntmps34;go_wp2_with fail
    rw [pA.out];refine ux.mono ?_;rintro e cS ⟨rfl,bF⟩;have bo:=cell_later bF bo;have c1:=cell_later bF c1;have c2:=cell_later bF c2;have c3:=cell_later bF c3;have c4:=cell_later bF c4;have c5:=cell_later bF c5;have dQ:=cell_later bF dQ;have ed:=cell_later bF ed;have eR:=cell_later bF eR;go_wp2_with fail
    refine (EF.out _ bF).mono ?_;rintro e w3 ⟨rfl,dZ⟩;go_wp2_with fail
    go_ret;exact ⟨Z,cN.trans ((nX bF dZ).mono cN.size)⟩
   | true =>
    cases r2 with
    | false =>
     go_enter func34,ntmps34;go_wp2_with fail
     rw [pA.out];refine ux.mono ?_;rintro e cS ⟨rfl,bF⟩;have bo:=cell_later bF bo;have c1:=cell_later bF c1;have c2:=cell_later bF c2;have c3:=cell_later bF c3;have c4:=cell_later bF c4;have c5:=cell_later bF c5;have dQ:=cell_later bF dQ;have ed:=cell_later bF ed;have eR:=cell_later bF eR;go_wp2_with fail
     refine (EF.out _ bF).mono ?_;rintro e w3 ⟨rfl,dZ⟩;have qN:=nX bF dZ;have bo:=cell_later dZ bo;have c1:=cell_later dZ c1;have c2:=cell_later dZ c2;have c3:=cell_later dZ c3;have c4:=cell_later dZ c4;have c5:=cell_later dZ c5;have dQ:=cell_later dZ dQ;have ed:=cell_later dZ ed;have eR:=cell_later dZ eR;go_wp2_with fail
     refine (G_.out _ qN).mono ?_;rintro e uC ⟨rfl,dK⟩;go_wp2_with fail
     go_ret;exact ⟨Z,cN.trans ((nX qN dK).mono cN.size)⟩
    | true =>
     cases se with
     | false =>
      go_enter func34,ntmps34;go_wp2_with fail
      rw [pA.out];refine ux.mono ?_;rintro e cS ⟨rfl,bF⟩;have bo:=cell_later bF bo;have c1:=cell_later bF c1;have c2:=cell_later bF c2;have c3:=cell_later bF c3;have c4:=cell_later bF c4;have c5:=cell_later bF c5;have dQ:=cell_later bF dQ;have ed:=cell_later bF ed;have eR:=cell_later bF eR;go_wp2_with fail
      refine (EF.out _ bF).mono ?_;rintro e w3 ⟨rfl,dZ⟩;have qN:=nX bF dZ;have bo:=cell_later dZ bo;have c1:=cell_later dZ c1;have c2:=cell_later dZ c2;have c3:=cell_later dZ c3;have c4:=cell_later dZ c4;have c5:=cell_later dZ c5;have dQ:=cell_later dZ dQ;have ed:=cell_later dZ ed;have eR:=cell_later dZ eR;go_wp2_with fail
      refine (G_.out _ qN).mono ?_;rintro e uC ⟨rfl,dK⟩;have sU:=nX qN dK;have bo:=cell_later dK bo;have c1:=cell_later dK c1;have c2:=cell_later dK c2;have c3:=cell_later dK c3;have c4:=cell_later dK c4;have c5:=cell_later dK c5;have dQ:=cell_later dK dQ;have ed:=cell_later dK ed;have eR:=cell_later dK eR;go_wp2_with fail
      refine (AK.out _ sU).mono ?_;rintro e q1 ⟨rfl,n8⟩;go_wp2_with fail
      go_ret;exact ⟨Z,cN.trans ((nX sU n8).mono cN.size)⟩
     | true =>
      go_enter func34,ntmps34;go_wp2_with fail
      rw [pA.out];refine ux.mono ?_;rintro e cS ⟨rfl,bF⟩;have bo:=cell_later bF bo;have c1:=cell_later bF c1;have c2:=cell_later bF c2;have c3:=cell_later bF c3;have c4:=cell_later bF c4;have c5:=cell_later bF c5;have dQ:=cell_later bF dQ;have ed:=cell_later bF ed;have eR:=cell_later bF eR;go_wp2_with fail
      refine (EF.out _ bF).mono ?_;rintro e w3 ⟨rfl,dZ⟩;have qN:=nX bF dZ;have bo:=cell_later dZ bo;have c1:=cell_later dZ c1;have c2:=cell_later dZ c2;have c3:=cell_later dZ c3;have c4:=cell_later dZ c4;have c5:=cell_later dZ c5;have dQ:=cell_later dZ dQ;have ed:=cell_later dZ ed;have eR:=cell_later dZ eR;go_wp2_with fail
      refine (G_.out _ qN).mono ?_;rintro e uC ⟨rfl,dK⟩;have sU:=nX qN dK;have bo:=cell_later dK bo;have c1:=cell_later dK c1;have c2:=cell_later dK c2;have c3:=cell_later dK c3;have c4:=cell_later dK c4;have c5:=cell_later dK c5;have dQ:=cell_later dK dQ;have ed:=cell_later dK ed;have eR:=cell_later dK eR;go_wp2_with fail
      refine (AK.out _ sU).mono ?_;rintro e q1 ⟨rfl,n8⟩;go_wp2_with fail
      go_ret;exact ⟨Z,cN.trans ((nX sU n8).mono cN.size)⟩
 ·rw [ak.ado xx];have Ii:(W.field.bn != 0)=true:=by simpa using xx
  clear xx n_ Rc p0;generalize W.field.bn=k at *
  go_enter func34,ntmps34;go_wp2_with fail
  rw [pA.out];refine hf.mono ?_;rintro e cS ⟨rfl,bF⟩;go_wp2_with fail
  go_ret;exact ⟨Z,cN.trans (bF.mono cN.size)⟩
end
end Go.Proofs.YtmeeljmapailnaaGreat
