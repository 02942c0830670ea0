import Derived.Test.YtlikikpgmmkjbaaGreatBlw
set_option linter.unusedVariables false
set_option linter.unusedSimpArgs false
set_option maxRecDepth 100000
set_option maxHeartbeats 4000000
open Go.RowKit
namespace Go.Proofs.YtlikikpgmmkjbaaGreat
open Tryz
abbrev aTZ:=@List.setIfInBounds_toArray
abbrev aVV:=@Go.wpQuiet_nil
abbrev aWH:=@Go.World.cell?_of_block
section
theorem aBj (a:ah.bZ) (W:ah) (w:World) (bN:ah.Has w a W) (aG:W.field.bp=0) (gB:W.aU.length≤8):
    Calls prog 89 #[.agg (ah.cells a W).toArray] w λ e w'=>e= .returned (.bool W.og)∧Below w.heap.size w w':=by
  obtain ⟨eY,f_,gb,fA,e5,fj,fM,gp,fT,fF⟩:=a;show Calls _ _ #[.agg #[.int .i64 W.field.wide, .int .i64 W.field.high, .slice eY W.field.aS.length fj, .slice f_ W.aU.length fM, .slice gb W.bh.length gp, .slice fA W.br.length fT, .slice e5 W.ao.length fF, .int .i64 W.next, .int .i64 W.now]] _ _;obtain ⟨kr,kh⟩:∃ n,Hid (W.aU.length=n):=⟨_,aRV rfl⟩;obtain ⟨ns,zW⟩:∃ n,Hid (W.bh.length=n):=⟨_,aRV rfl⟩;have gB:kr≤8:=by rw [← kh.out];exact gB
  have cC:=lr w (.cells (ah.cells ⟨eY,f_,gb,fA,e5,fj,fM,gp,fT,fF⟩ W).toArray 28);have jo:=aRV (aP.new w (ah.cells ⟨eY,f_,gb,fA,e5,fj,fM,gp,fT,fF⟩ W) 28 (0,0));have mC:=aRV (bN.keep cC);have wJ:=aRV aG;obtain ⟨w0,js⟩:∃ w0,Hid (w.alloc (.cells (ah.cells ⟨eY,f_,gb,fA,e5,fj,fM,gp,fT,fF⟩ W).toArray 28)=w0):=⟨_,aRV rfl⟩;rw [js.out] at cC mC;have jo:Hid (aP w0 w.heap.size (ah.cells ⟨eY,f_,gb,fA,e5,fj,fM,gp,fT,fF⟩ W) 28 (0,0)):=by rw [← js.out];exact jo
  have px:Hid (w.alloc (.cells #[.int .i64 W.field.wide, .int .i64 W.field.high, .slice eY W.field.aS.length fj, .slice f_ kr fM, .slice gb ns gp, .slice fA W.br.length fT, .slice e5 W.ao.length fF, .int .i64 W.next, .int .i64 W.now] 28)=w0):=by rw [← js.out,← kh.out,← zW.out];rfl
  obtain ⟨bX,c1,c2,c3,c4,c5,dB,dT,eJ⟩:=ah.th jo.out;rw [kh.out] at c3;rw [zW.out] at c4;clear bN aG;by_cases hlen:ns=kr
  · subst hlen
    have BS:Hid (∀ j,j<0→W.xJ j=true):=aRV λ j ay=>absurd ay (by omega);go_enter func89,ntmps89;rw [kh.out,zW.out];go_wp2_with fail
    rw [px.out];go_loopw [3,4,15] (λ _ _ hh wr=>∃ k:Nat,k≤ns∧hh= .int .i64 (k:Int)∧Hid (∀ j,j<k→W.xJ j=true)∧Below w0.heap.size w0 wr) (λ _ _ hh _=>ns - (intOf hh).toNat)
    case atStart=>exact ⟨0,aSG _,rfl,BS,aSm _ _⟩
    case round =>
      clear BS bX c1 c2 c3 c4 c5 dB dT eJ;obtain ⟨k,av,rfl,hY,Φ⟩:=hrel;by_cases bC:k<ns
      · obtain ⟨p,hp⟩:=hP (l:=W.aU) (i:=k) (by rw [kh.out];exact bC)
        obtain ⟨st,hs⟩:=hP (l:=W.bh) (i:=k) (by rw [zW.out];exact bC);have P3:=mC.out.keep Φ;have afs:=jo.out.later Φ;have P2:ax.rep.aJ 16 wr f_ fM W.aU:=P3.B;have KI:bQ.aJ 8 wr eY fj W.field.aS:=P3.P;have afA:bQ.aJ 8 wr gb gp W.bh:=P3.S;have aKi:(ns:Int)≤(fM:Int):=by have:=P2.1;rw [kh.out] at this;omega
        obtain ⟨b,o,rfl,jE⟩:=ax.at_ P2 (by rw [kh.out];omega);obtain ⟨ME,eR⟩:=jE k p hp;obtain ⟨cV,os,rfl,aga⟩:=FF afA (by rw [zW.out];omega);have YW:=aga k st hs;obtain ⟨bX,c1,c2,c3,c4,c5,dB,dT,eJ⟩:=ah.th afs;rw [kh.out] at c3;rw [zW.out] at c4;have dM:W.xJ k=(W.field.ground p && !(W.aU.take k).contains p && cO st 0 1000000):=by
          unfold ah.xJ;rw [aRQ,hp,aRQ,hs];rfl
        have cQ:=lr wr (.cells #[.int .i64 p.x, .int .i64 p.y] 49);have P1:=aP.new wr p.cells 49 (0,0);obtain ⟨aW,Tr⟩:∃ aW,Hid (wr.alloc (.cells #[.int .i64 p.x, .int .i64 p.y] 49)=aW):=⟨_,aRV rfl⟩;rw [Tr.out] at cQ;have P1:aP aW wr.heap.size p.cells 49 (0,0):=by rw [← Tr.out];exact P1
        obtain ⟨De,r1⟩:=ax.ft P1;have k0:=aRV (λ (V:World) (h:Below aW.heap.size aW V)=>KF W.field p eY fj V ((KI.keep cQ).keep h) wJ.out);have zR:=aRV (λ (V:World) (h:Below aW.heap.size aW V)=>avA p (some ⟨b,o,none⟩) fM (W.aU.take k) V (((P2.IE k).keep cQ).keep h));have i_:(W.aU.take k).length=k:=by rw [aRU,kh.out];omega
        rw [i_] at zR;have mb:=aRV (λ (V:World)=>Sx st 0 1000000 V);have k2:=aRV dM;have CD:=aSm aW.heap.size aW;have CC:=Φ.trans (cQ.mono Φ.size);have pX:(k:Int)<(ns:Int):=by omega
        have pV:(0:Int)≤(k:Int):=by omega
        have aws:(k:Int)≤(fM:Int):=by omega
        have WT:k≤fM:=by omega
        clear P3 afs jE aga hp hs dM i_ P2 KI afA;go_wp2_with fail
        rw [Tr.out];have bX:=cell_later cQ bX;have c1:=cell_later cQ c1;have c2:=cell_later cQ c2;have c3:=cell_later cQ c3;have c4:=cell_later cQ c4;have YW:=cell_later cQ YW;have fp:=aRV (λ (l6:World) (h:Below aW.heap.size aW l6)=>(⟨trivial,cell_later h bX,cell_later h c1,cell_later h c2,cell_later h c3,cell_later h c4,cell_later h De,cell_later h r1,cell_later h YW⟩:True∧l6.cell? ⟨w.heap.size,0,none⟩=some (.int .i64 W.field.wide)∧l6.cell? ⟨w.heap.size,1,none⟩=some (.int .i64 W.field.high)∧l6.cell? ⟨w.heap.size,2,none⟩=some (.slice eY W.field.aS.length fj)∧l6.cell? ⟨w.heap.size,3,none⟩=some (.slice (some ⟨b,o,none⟩) ns fM)∧l6.cell? ⟨w.heap.size,4,none⟩=some (.slice (some ⟨cV,os,none⟩) ns gp)∧l6.cell? ⟨wr.heap.size,0,none⟩=some (.int .i64 p.x)∧l6.cell? ⟨wr.heap.size,1,none⟩=some (.int .i64 p.y)∧l6.cell? ⟨cV,os+k,none⟩=some (.int .i64 st)));clear ME eR c5 dB dT eJ P1;cases κ:W.field.ground p with
        | false =>
          rw [κ] at k0;have bV:Hid (W.og=false):=ah.Yx (k:=k) (by rw [kh.out];exact bC) (by rw [k2.out,κ];rfl);clear κ;refine SB (by kernel_rfl) (by kernel_rfl) ?_;repeat (first
            | go_big_quiet_skip
            | (go_big_quiet_want
               first
               | (go_big_quiet_op;go_big_quiet_on)
               | (apply Exists.intro
                  refine ⟨λ F2 I=> ?_, ?_⟩
                  · first
                    | (obtain ⟨_,YF,YG,YH,YI,YJ,YK,YL,YM⟩:=fp.out F2 I
                       apply RD
                       · (go_simp;rfl)
                       · rfl)
                    | (apply RB
                       · (go_simp;rfl)
                       · rfl
                       · first
                         | (with_reducible refine (k0.out _ I).mono ?_;rintro e cF ⟨rfl,bw⟩;exact ⟨rfl,n3 I bw⟩)
                         | (with_reducible refine (zR.out _ I).mono ?_;rintro e cF ⟨rfl,bw⟩;exact ⟨rfl,n3 I bw⟩)
                         | (with_reducible refine (mb.out _).mono ?_;rintro e cF ⟨rfl,rfl⟩;exact ⟨rfl,I⟩)
                       )
                  go_big_quiet_on
                  simp only [Act.put,aTZ,aTM,aTN])))
          refine aVV ?_;intro Bt bE;go_wp2_with fail
          go_ret;exact ⟨h4 bV.out.symm,cC.trans ((CC.trans (aWd bE CC.size)).mono cC.size)⟩
        | true =>
          rw [κ] at k0;cases aa:(W.aU.take k).contains p with
          | true =>
            rw [aa] at zR;have bV:Hid (W.og=false):=ah.Yx (k:=k) (by rw [kh.out];exact bC) (by rw [k2.out,κ,aa];rfl);clear κ aa;refine SB (by kernel_rfl) (by kernel_rfl) ?_;repeat (first
              | go_big_quiet_skip
              | (go_big_quiet_want
                 first
                 | (go_big_quiet_op;go_big_quiet_on)
                 | (apply Exists.intro
                    refine ⟨λ F2 I=> ?_, ?_⟩
                    · first
                      | (obtain ⟨_,YF,YG,YH,YI,YJ,YK,YL,YM⟩:=fp.out F2 I
                         apply RD
                         · (go_simp;rfl)
                         · rfl)
                      | (apply RB
                         · (go_simp;rfl)
                         · rfl
                         · first
                           | (with_reducible refine (k0.out _ I).mono ?_;rintro e cF ⟨rfl,bw⟩;exact ⟨rfl,n3 I bw⟩)
                           | (with_reducible refine (zR.out _ I).mono ?_;rintro e cF ⟨rfl,bw⟩;exact ⟨rfl,n3 I bw⟩)
                           | (with_reducible refine (mb.out _).mono ?_;rintro e cF ⟨rfl,rfl⟩;exact ⟨rfl,I⟩)
                         )
                    go_big_quiet_on
                    simp only [Act.put,aTZ,aTM,aTN])))
            refine aVV ?_;intro Bt bE;go_wp2_with fail
            go_ret;exact ⟨h4 bV.out.symm,cC.trans ((CC.trans (aWd bE CC.size)).mono cC.size)⟩
          | false =>
            rw [aa] at zR;cases aw:cO st 0 1000000 with
            | false =>
              rw [aw] at mb;have bV:Hid (W.og=false):=ah.Yx (k:=k) (by rw [kh.out];exact bC) (by rw [k2.out,aw,aV2]);clear κ aa aw;refine SB (by kernel_rfl) (by kernel_rfl) ?_;repeat (first
                | go_big_quiet_skip
                | (go_big_quiet_want
                   first
                   | (go_big_quiet_op;go_big_quiet_on)
                   | (apply Exists.intro
                      refine ⟨λ F2 I=> ?_, ?_⟩
                      · first
                        | (obtain ⟨_,YF,YG,YH,YI,YJ,YK,YL,YM⟩:=fp.out F2 I
                           apply RD
                           · (go_simp;rfl)
                           · rfl)
                        | (apply RB
                           · (go_simp;rfl)
                           · rfl
                           · first
                             | (with_reducible refine (k0.out _ I).mono ?_;rintro e cF ⟨rfl,bw⟩;exact ⟨rfl,n3 I bw⟩)
                             | (with_reducible refine (zR.out _ I).mono ?_;rintro e cF ⟨rfl,bw⟩;exact ⟨rfl,n3 I bw⟩)
                             | (with_reducible refine (mb.out _).mono ?_;rintro e cF ⟨rfl,rfl⟩;exact ⟨rfl,I⟩)
                           )
                      go_big_quiet_on
                      simp only [Act.put,aTZ,aTM,aTN])))
              refine aVV ?_;intro Bt bE;go_wp2_with fail
              go_ret;exact ⟨h4 bV.out.symm,cC.trans ((CC.trans (aWd bE CC.size)).mono cC.size)⟩
            | true =>
              rw [aw] at mb;have pn:Hid (∀ j,j<k+1→W.xJ j=true):=by
                intro j ay;by_cases gU:j<k
                · exact hY.out j gU
                · obtain rfl:j=k:=by omega
                  rw [k2.out,κ,aa,aw];rfl
              clear κ aa aw;refine SB (by kernel_rfl) (by kernel_rfl) ?_;repeat (first
                | go_big_quiet_skip
                | (go_big_quiet_want
                   first
                   | (go_big_quiet_op;go_big_quiet_on)
                   | (apply Exists.intro
                      refine ⟨λ F2 I=> ?_, ?_⟩
                      · first
                        | (obtain ⟨_,YF,YG,YH,YI,YJ,YK,YL,YM⟩:=fp.out F2 I
                           apply RD
                           · (go_simp;rfl)
                           · rfl)
                        | (apply RB
                           · (go_simp;rfl)
                           · rfl
                           · first
                             | (with_reducible refine (k0.out _ I).mono ?_;rintro e cF ⟨rfl,bw⟩;exact ⟨rfl,n3 I bw⟩)
                             | (with_reducible refine (zR.out _ I).mono ?_;rintro e cF ⟨rfl,bw⟩;exact ⟨rfl,n3 I bw⟩)
                             | (with_reducible refine (mb.out _).mono ?_;rintro e cF ⟨rfl,rfl⟩;exact ⟨rfl,I⟩)
                           )
                      go_big_quiet_on
                      simp only [Act.put,aTZ,aTM,aTN])))
              refine aVV ?_;intro Bt bE;go_wp2_with fail
              go_roundw
              case rel=>exact ⟨k+1,by omega,by go_num,pn,CC.trans (aWd bE CC.size)⟩
              case measure=>simp [intOf];omega
      · have rb:Hid (W.og=true):=ah.ake (by rw [zW.out,kh.out]) λ j ay=>hY.out j (by rw [kh.out] at ay;omega)
        clear hY;go_wp2_with fail
        go_ret;exact ⟨h4 rb.out.symm,cC.trans (Φ.mono cC.size)⟩
  · have rb:Hid (W.og=false):=ah.aBk (by rw [zW.out,kh.out];exact hlen)
    have hd:((ns:Int) != (kr:Int))=true:=by simp;omega
    rw [rb.out];go_enter func89,ntmps89;rw [kh.out,zW.out];go_wp2_with fail
    go_ret;rw [px.out];exact ⟨Z,cC⟩
end
section
theorem azX (a:ah.bZ) (W:ah) (w:World) (bN:ah.Has w a W):
  Calls prog 90 #[.agg (ah.cells a W).toArray] w λ e w'=>e= .returned (.bool W.o3)∧Below w.heap.size w w':=by
 obtain ⟨eY,f_,gb,fA,e5,fj,fM,gp,fT,fF⟩:=a;show Calls _ _ #[.agg #[.int .i64 W.field.wide, .int .i64 W.field.high, .slice eY W.field.aS.length fj, .slice f_ W.aU.length fM, .slice gb W.bh.length gp, .slice fA W.br.length fT, .slice e5 W.ao.length fF, .int .i64 W.next, .int .i64 W.now]] _ _;have cC:=lr w (.cells (ah.cells ⟨eY,f_,gb,fA,e5,fj,fM,gp,fT,fF⟩ W).toArray 28);have jo:=aRV (aP.new w (ah.cells ⟨eY,f_,gb,fA,e5,fj,fM,gp,fT,fF⟩ W) 28 (0,0));have mC:=aRV (bN.keep cC);obtain ⟨w0,js⟩:∃ w0,Hid (w.alloc (.cells (ah.cells ⟨eY,f_,gb,fA,e5,fj,fM,gp,fT,fF⟩ W).toArray 28)=w0):=⟨_,aRV rfl⟩;rw [js.out] at cC mC;have jo:Hid (aP w0 w.heap.size (ah.cells ⟨eY,f_,gb,fA,e5,fj,fM,gp,fT,fF⟩ W) 28 (0,0)):=by rw [← js.out];exact jo
 obtain ⟨nm,tE⟩:∃ n,Hid (W.br.length=n):=⟨_,aRV rfl⟩;obtain ⟨Mx,zV⟩:∃ n,Hid (W.field.aS.length=n):=⟨_,aRV rfl⟩;have hle:nm≤9223372036854775807:=by have:=bN.M.dU;rw [tE.out] at this;exact this
 have px:Hid (w.alloc (.cells #[.int .i64 W.field.wide, .int .i64 W.field.high, .slice eY Mx fj, .slice f_ W.aU.length fM, .slice gb W.bh.length gp, .slice fA nm fT, .slice e5 W.ao.length fF, .int .i64 W.next, .int .i64 W.now] 28)=w0):=by rw [← js.out,← tE.out,← zV.out];rfl
 obtain ⟨bX,c1,c2,c3,c4,c5,dB,dT,eJ⟩:=ah.th jo.out;rw [zV.out] at c2;rw [tE.out] at c5;clear bN;by_cases hlen:nm=Mx
 ·subst hlen;have BS:Hid (∀ j,j<0→W.xK j=true):=aRV λ j ay=>absurd ay (by omega);go_enter func90,ntmps90;rw [zV.out,tE.out];go_wp2_with fail
  rw [px.out];go_loopw [3,4,16] (λ _ _ hh wr=>∃ k:Nat,k≤nm∧hh= .int .i64 (k:Int)∧Hid (∀ j,j<k→W.xK j=true)∧Hid (wr=w0)) (λ _ _ hh _=>nm - (intOf hh).toNat)
  case atStart=>exact ⟨0,aSG _,rfl,BS,rfl⟩
  case round =>
   clear BS bX c1 c2 c3 c4 c5 dB dT eJ;obtain ⟨k,av,rfl,hY,GB⟩:=hrel;obtain ⟨bX,c1,c2,c3,c4,c5,dB,dT,eJ⟩:=ah.th (show aP wr w.heap.size (ah.cells ⟨eY,f_,gb,fA,e5,fj,fM,gp,fT,fF⟩ W) 28 (0,0) by rw [GB.out];exact jo.out);rw [zV.out] at c2;rw [tE.out] at c5;have mj:Below w.heap.size w wr:=by rw [GB.out];exact cC
   by_cases bC:k<nm
   ·obtain ⟨p,hp⟩:=hP (l:=W.field.aS) (i:=k) (by rw [zV.out];exact bC);obtain ⟨m,hm⟩:=hP (l:=W.br) (i:=k) (by rw [tE.out];exact bC);have KI:bQ.aJ 8 wr eY fj W.field.aS:=by rw [GB.out];exact mC.out.P
    have afz:bQ.aJ 8 wr fA fT W.br:=by rw [GB.out];exact mC.out.M
    obtain ⟨b,o,rfl,jE⟩:=FF KI (by rw [zV.out];omega);have ME:=jE k p hp;obtain ⟨aIT,aOo,rfl,af9⟩:=FF afz (by rw [tE.out];omega);have m0:=af9 k m hm;have dM:W.xK k=(cO m 0 1000000 && (decide (m≤0) || p == 3)):=by
     unfold ah.xK;rw [aRQ,hm,aRQ,hp];rfl
    have mb:=aRV (λ (V:World)=>Sx m 0 1000000 V);have k2:=aRV dM;have pX:(k:Int)<(nm:Int):=by omega
    have pV:(0:Int)≤(k:Int):=by omega
    clear KI afz jE af9 hp hm dM;cases κ:cO m 0 1000000 with
    | false =>
     rw [κ] at mb;have bV:Hid (W.o3=false):=ah.ajE (k:=k) (by rw [tE.out];exact bC) (by rw [k2.out,κ];rfl);clear κ;go_wp2_with fail
     refine (mb.out _).mono ?_;rintro e w' ⟨rfl,rfl⟩;go_wp2_with fail
     go_ret;exact ⟨h4 bV.out.symm,mj⟩
    | true =>
     rw [κ] at mb;by_cases aa:m≤0
     ·have hd:decide (0<m)=false:=by simp;omega
      have pn:Hid (∀ j,j<k+1→W.xK j=true):=by
       intro j ay;by_cases gU:j<k
       ·exact hY.out j gU
       ·obtain rfl:j=k:=by omega
        rw [k2.out,κ,aSo aa];rfl
      clear κ;go_wp2_with fail
      refine (mb.out _).mono ?_;rintro e w' ⟨rfl,rfl⟩;go_wp2_with fail
      go_roundw
      case rel=>exact ⟨k+1,by omega,by go_num,pn,GB⟩
      case measure=>simp [intOf];omega
     ·have hd:decide (0<m)=true:=by simp;omega
      by_cases aw:p=3
      ·subst aw;have pn:Hid (∀ j,j<k+1→W.xK j=true):=by
        intro j ay;by_cases gU:j<k
        ·exact hY.out j gU
        ·obtain rfl:j=k:=by omega
         rw [k2.out,κ];simp
       clear κ aa;go_wp2_with fail
       refine (mb.out _).mono ?_;rintro e w' ⟨rfl,rfl⟩;go_wp2_with fail
       go_roundw
       case rel=>exact ⟨k+1,by omega,by go_num,pn,GB⟩
       case measure=>simp [intOf];omega
      ·have bV:Hid (W.o3=false):=ah.ajE (k:=k) (by rw [tE.out];exact bC) (by rw [k2.out,aSt aa,beq_false_of_ne aw];simp);have HC:(p == 3)=false:=by simpa using aw
       clear κ aa aw;go_wp2_with fail
       refine (mb.out _).mono ?_;rintro e w' ⟨rfl,rfl⟩;go_wp2_with fail
       go_ret;exact ⟨h4 bV.out.symm,mj⟩
   ·have rb:Hid (W.o3=true):=ah.ajF (by rw [tE.out,zV.out]) λ j ay=>hY.out j (by rw [tE.out] at ay;omega);clear hY;go_wp2_with fail
    go_ret;exact ⟨h4 rb.out.symm,mj⟩
 ·have rb:Hid (W.o3=false):=ah.azY (by rw [tE.out,zV.out];exact hlen);have hd:((nm:Int) != (Mx:Int))=true:=by simp;omega
  rw [rb.out];go_enter func90,ntmps90;rw [zV.out,tE.out];go_wp2_with fail
  go_ret;rw [px.out];exact ⟨Z,cC⟩
end
section
theorem o_ {n lo ar:Int} {b:Bool} (h:cO n lo ar=b) (w:World):Calls prog 127 #[.int .i64 n, .int .i64 lo, .int .i64 ar] w λ e w'=>e= .returned (.bool b)∧w=w':=by
 have:=Sx n lo ar w;rw [h] at this;exact this
theorem dz.drewN {gu:Type} {key:gu→Value} {w:World} {b:Nat} {l:List (gu×Int×Nat)} {clock:Nat} (h:dz key w b l clock) (n:Nat):dz key (w.drewN n) b l clock:=⟨h.ft,h.born,h.stamps⟩
theorem aed (w:World):w.drewN 1=w.drew:=rfl
theorem aP.of_heap {w w':World} {g:Nat} {cur:List Value} {e:TypeId} {aA:Nat×Nat} (h:aP w g cur e aA) (fS:w'.heap[g]? =w.heap[g]?):aP w' g cur e aA:=fS.trans h
theorem aeS {w:World} {b:Nat} {l:List (ax×Int×Nat)} {lu:Nat} (h:dz ax.key w b l lu) (hw:∀ e∈l,e.1.ok) (hn:(l.map (·.1)).Nodup) (x:ax) (hx:x.ok) (v:Int) (hv:(dz.get l x).getD 0=v):
  ∃ (st:Nat) (eA:List (ax×Int×Nat)) (c1:Nat) (xY sa:World),
   (∀ n,(Instr.lookup 205 (.map (some b)) (.agg #[.int .i64 x.x, .int .i64 x.y]) false).run prog (w.drewN n)= .ok (.int .i64 v) (w.drewN n))∧
   (∀ n,(Instr.mapEntry 205 (.map (some b)) (.agg #[.int .i64 x.x, .int .i64 x.y])).run prog (w.drewN n)= .ok (.tuple #[.int .i64 v, .int .i64 (st:Int)]) (xY.drewN n))∧
   (∀ n,(Instr.lookup 205 (.map (some b)) (.agg #[.int .i64 x.x, .int .i64 x.y]) false).run prog (xY.drewN n)= .ok (.int .i64 v) (xY.drewN n))∧
   (∀ n,(Instr.entryStore 205 (.map (some b)) (.int .i64 (st:Int)) (.int .i64 (v+1))).run prog (xY.drewN n)= .ok () (sa.drewN n))∧
   (∀ n,(Instr.lookup 205 (.map (some b)) (.agg #[.int .i64 x.x, .int .i64 x.y]) false).run prog (sa.drewN n)= .ok (.int .i64 (v+1)) (sa.drewN n))∧
   dz ax.key sa b (dz.put l lu x (v+1)) (dz.tick l lu x)∧
   (∀ p:Addr,p.block≠b→xY.cell? p=w.cell? p)∧(∀ p:Addr,p.block≠b→sa.cell? p=w.cell? p)∧
   ∀ {B:Nat} {a:World},B≤b→(Below B a w→Below B a sa)∧(∀ g,g≠b→sa.heap[g]? =w.heap[g]?):=by
 obtain ⟨st,eA,ec,bc,bl,cH,iq,An,Ao⟩:=dz.entry ax.y1 underlying205 aVT h hw hn x hx;have CO:=λ n=>(dz.lookup (w:=w.drewN n) ax.y1 underlying205 (aVT _) (h.drewN n) hw hn x hx).1;have CP:=λ n=>(dz.lookup (w:=(iM w b (eA.map (dC ax.key)).toArray ec).drewN n) ax.y1 underlying205 (aVT _) (bl.drewN n) cH iq x hx).1;have hp:=(Ao (v+1) 0).2;have CQ:=λ n=>(dz.lookup (w:=(iM w b ((dz.put l lu x (v+1)).map (dC ax.key)).toArray (dz.tick l lu x)).drewN n) ax.y1 underlying205 (aVT _) (hp.drewN n) (dz.X_ hw hx) (dz.HT hn lu x (v+1)) x hx).1;simp only [An,hv,aSX] at CO CP bc;simp only [dz.AB,aR5,aSX] at CQ;exact ⟨st,eA,ec,_,_,CO,bc,CP,λ n=>(Ao (v+1) n).1,CQ,hp,λ p hp=>aWH (MQ hp),λ p hp=>aWH (MQ hp),
  fun {B a} bg=>⟨λ Φ=>aCQ Φ bg,λ g aO=>MQ aO⟩⟩
theorem aDC (a:ah.bZ) (W:ah) (w:World) (bN:ah.Has w a W) (aG:W.field.bp=0) (gB:W.aU.length≤8) (xk:W.ao.length≤100):
  Calls prog 91 #[.agg (ah.cells a W).toArray] w λ e w'=>e= .returned (.bool W.ku)∧Below w.heap.size w w':=by
 obtain ⟨eY,f_,gb,fA,e5,fj,fM,gp,fT,fF⟩:=a;show Calls _ _ #[.agg #[.int .i64 W.field.wide, .int .i64 W.field.high, .slice eY W.field.aS.length fj, .slice f_ W.aU.length fM, .slice gb W.bh.length gp, .slice fA W.br.length fT, .slice e5 W.ao.length fF, .int .i64 W.next, .int .i64 W.now]] _ _;have cC:=lr w (.cells (ah.cells ⟨eY,f_,gb,fA,e5,fj,fM,gp,fT,fF⟩ W).toArray 28);have jo:=aRV (aP.new w (ah.cells ⟨eY,f_,gb,fA,e5,fj,fM,gp,fT,fF⟩ W) 28 (0,0));have mC:=aRV (bN.keep cC);obtain ⟨w0,js⟩:∃ w0,Hid (w.alloc (.cells (ah.cells ⟨eY,f_,gb,fA,e5,fj,fM,gp,fT,fF⟩ W).toArray 28)=w0):=⟨_,aRV rfl⟩;rw [js.out] at cC mC;have jo:Hid (aP w0 w.heap.size (ah.cells ⟨eY,f_,gb,fA,e5,fj,fM,gp,fT,fF⟩ W) 28 (0,0)):=by rw [← js.out];exact jo
 obtain ⟨eg,ij⟩:∃ n,Hid (W.ao.length=n):=⟨_,aRV rfl⟩;obtain ⟨kr,kh⟩:∃ n,Hid (W.aU.length=n):=⟨_,aRV rfl⟩;have gB:kr≤8:=by rw [← kh.out];exact gB
 have xk:eg≤100:=by rw [← ij.out];exact xk
 have wJ:=aRV aG;have BT:=aRV bN;obtain ⟨Fz,vJ⟩:∃ Fz,wrap64 (W.next - 1)=Fz:=⟨_,rfl⟩;have aa8:=aRV vJ;have px:Hid (w.alloc (.cells #[.int .i64 W.field.wide, .int .i64 W.field.high, .slice eY W.field.aS.length fj, .slice f_ kr fM, .slice gb W.bh.length gp, .slice fA W.br.length fT, .slice e5 eg fF, .int .i64 W.next, .int .i64 W.now] 28)=w0):=by rw [← js.out,← kh.out,← ij.out];rfl
 obtain ⟨bX,c1,c2,c3,c4,c5,dB,dT,eJ⟩:=ah.th jo.out;rw [kh.out] at c3;rw [ij.out] at dB;clear bN aG;have Qw:=@run_makeMap prog;have Qu:=dz.made (key:=ax.key) w0;have Wo:=lr w0 (.map #[] 0);obtain ⟨amA,abi⟩:∃ amA,Hid (w0.alloc (.map #[] 0)=amA):=⟨_,aRV rfl⟩;rw [abi.out] at Qu Wo;have ja:w0.heap.size=w.heap.size+1:=by rw [← js.out];simp
 rw [ja] at Qu;have Tm:=aRV Qu;have BS:Hid (∀ j,j<0→W.xL j=true):=aRV λ j ay=>absurd ay (by omega);clear Qu;go_enter func91,ntmps91;rw [kh.out,ij.out];go_wp2_with fail
 rw [px.out,abi.out];have aa6:Hid (bQ.aJ 8 w eY fj W.field.aS):=aRV BT.out.P;have an3:Hid (bf.rep.aJ 56 w e5 fF W.ao):=aRV BT.out.T;have aKE:=xk;have EN:=jo.out.later Wo;have afU:=cC.trans (Wo.mono cC.size);clear bX c1 c2 c3 c4 c5 dB dT eJ Qw;obtain ⟨eK,Tn⟩:∃ eK,Hid (w.heap.size+1=eK):=⟨_,aRV rfl⟩;rw [Tn.out];rw [Tn.out] at Tm;go_loopw [3,6,7,8,9,14] (λ azC _ _ _ _ hh wr=>∃ (k:Nat) (l:List (ax×Int×Nat)) (lu:Nat),k≤eg∧hh= .int .i64 (k:Int)∧azC= .int .i64 (W.jQ k)∧Hid (∀ j,j<k→W.xL j=true)∧Hid (dz ax.key wr eK l lu)∧Hid (∀ e∈l,e.1.ok)∧Hid ((l.map (·.1)).Nodup)∧Hid (∀ c,dz.get l c=if (W.jf k).contains c=true then some 1 else none)∧Hid (aP wr w.heap.size (ah.cells ⟨eY,f_,gb,fA,e5,fj,fM,gp,fT,fF⟩ W) 28 (0,0))∧Below w.heap.size w wr) (λ _ _ _ _ _ hh _=>eg - (intOf hh).toNat)
 case atStart=>exact ⟨0, [],0,aSG _,rfl,rfl,BS,Tm,(λ e he=>by simp at he),aVY,(λ c=>by simp [dz.get,ah.jf]),EN,afU⟩
 case round =>
  clear BS Tm EN afU;obtain ⟨k,l,lu,av,rfl,rfl,hY,k1,Oi,Oa,BQ,Gv,mj⟩:=hrel;obtain ⟨bX,c1,c2,c3,c4,c5,dB,dT,eJ⟩:=ah.th Gv.out;rw [kh.out] at c3;rw [ij.out] at dB;by_cases bC:k<eg
  ·obtain ⟨t,aE⟩:=hP (l:=W.ao) (i:=k) (by rw [ij.out];exact bC);have afB:=an3.out.keep mj;obtain ⟨b,o,rfl,jE⟩:=bf.at_ afB (by rw [ij.out];omega);obtain ⟨ME,eR,fl,mn,xO,aOq,aOr⟩:=jE k t aE;obtain ⟨iv,rU⟩:∃ iv,wrap64 (W.jQ k+1)=iv:=⟨_,rfl⟩;have dM:W.xL k=(W.MA iv Fz t && !(W.jf k).contains t.spot):=by
    unfold ah.xL;rw [aRQ,aE,rU,aa8.out];rfl
   unfold ah.MA at dM;rw [kh.out] at dM;have agU:W.jQ (k+1)=t.id:=by
    unfold ah.jQ;rw [aR0 (by omega),aRQ,aVq,aE];rfl
   have ahn:W.jf (k+1)=W.jf k++ [t.spot]:=by
    unfold ah.jf;rw [aSk (by rw [ij.out];exact bC),aSi];have:W.ao[k]'(by rw [ij.out];exact bC)=t:=by
     rw [aRT (by rw [ij.out];exact bC)] at aE;exact aRR aE
    rw [this];rfl
   have aa7:=aRV agU;have abg:=aRV ahn;have cQ:=lr wr (.cells #[.int .i64 t.id, .int .i64 t.owner, .int .i64 t.kind, .int .i64 t.spot.x, .int .i64 t.spot.y, .int .i64 t.c7, .int .i64 t.load] 66);have afw:=aP.new wr t.cells 66 (0,0);obtain ⟨aW,JO⟩:∃ aW,Hid (wr.alloc (.cells #[.int .i64 t.id, .int .i64 t.owner, .int .i64 t.kind, .int .i64 t.spot.x, .int .i64 t.spot.y, .int .i64 t.c7, .int .i64 t.load] 66)=aW):=⟨_,aRV rfl⟩;rw [JO.out] at cQ;have BP:Hid (aP aW wr.heap.size t.cells 66 (0,0)):=by rw [← JO.out];exact afw
   have WY:eK<wr.heap.size:=k1.out.lt;have agL:w.heap.size<eK:=by have:=Tn.out;omega
   have pX:(k:Int)<(eg:Int):=by omega
   have pV:(0:Int)≤(k:Int):=by omega
   have aK1:(0:Int)≤(kr:Int)∧(kr:Int)≤8:=by omega
   clear afB jE aE agU ahn afw vJ;have vJ:=aa8.out;by_cases pW:t.kind=1
   ·have zZ:=aRV pW;rw [pW] at fl;clear pW;have JF:=aRV (λ V:World=>aiW V);have Lg:ah.ka 1=10:=rfl;have Li:ah.A6 1=5:=rfl;rw [zZ.out,Lg,Li] at dM;have k2:=aRV dM;clear Lg Li dM;have Tq:Hid (wr.alloc (.cells #[.int .i64 t.id, .int .i64 t.owner, .int .i64 1, .int .i64 t.spot.x, .int .i64 t.spot.y, .int .i64 t.c7, .int .i64 t.load] 66)=aW):=by rw [← JO.out,zZ.out];rfl
    go_wp2_with fail
    rw [Tq.out];refine (JF.out _).mono ?_;rintro e cF ⟨rfl,bw⟩;have vH:=cQ.trans (bw.mono cQ.size);have dG:=lr cF (.cells #[.int .i64 10, .int .i64 1, .int .i64 1, .int .i64 5] 207);have AE:=aP.new cF [.int .i64 10, .int .i64 1, .int .i64 1, .int .i64 5] 207 (0,0);obtain ⟨w3,Ea⟩:∃ w3,Hid (cF.alloc (.cells #[.int .i64 10, .int .i64 1, .int .i64 1, .int .i64 5] 207)=w3):=⟨_,aRV rfl⟩;rw [Ea.out] at dG;have AE:aP w3 cF.heap.size [.int .i64 10, .int .i64 1, .int .i64 1, .int .i64 5] 207 (0,0):=by rw [← Ea.out];exact AE
    have AR:w3.cell? ⟨cF.heap.size,0,none⟩=some (.int .i64 10):=AE.cell 0;have rL:=vH.trans (dG.mono vH.size);have D1:=aRV ((BP.out.later bw).later dG);have JG:=aRV (k1.out.later rL);have D0:=aRV (Gv.out.later rL);have EX:=mj.trans (rL.mono mj.size);have JD:=aRV (aa6.out.keep EX);obtain ⟨t0,t1,t2,t3,t4,t5,t6⟩:=bf.ft ((BP.out.later bw));rw [zZ.out] at t2;clear bX c1 c2 c3 c4 c5 dB dT eJ;obtain ⟨bX,c1,c2,c3,c4,c5,dB,dT,eJ⟩:=ah.th (Gv.out.later vH);rw [kh.out] at c3;rw [ij.out] at dB;have afX:wr.heap.size<cF.heap.size:=by have:=bw.size;have:=BP.out.lt;omega
    have afY:w.heap.size<cF.heap.size:=by have:=WY;omega
    go_wp2_with fail
    rw [Ea.out];clear t0 t1 t2 t3 t4 t5 t6 bX c1 c2 c3 c4 c5 dB dT eJ;obtain ⟨t0,t1,t2,t3,t4,t5,t6⟩:=bf.ft D1.out;obtain ⟨bX,c1,c2,c3,c4,c5,dB,dT,eJ⟩:=ah.th D0.out;rw [kh.out] at c3;rw [ij.out] at dB;rw [zZ.out] at t2;clear bw AE dG vH;cases aG:cO t.id iv Fz with
    | false =>
     have bV:Hid (W.ku=false):=ah.uD (k:=k) (by rw [ij.out];exact bC) (by rw [k2.out,aG];simp);have zS:=aRV aG;clear aG;refine (o_ zS.out _).mono ?_;rintro e w' ⟨rfl,rfl⟩;go_wp2_with fail
     go_ret;exact ⟨h4 bV.out.symm,EX⟩
    | true =>
     have zS:=aRV aG;clear aG;refine (o_ zS.out _).mono ?_;rintro e w' ⟨rfl,rfl⟩;go_wp2_with fail
     cases κ:cO t.owner 0 ((kr:Int) - 1) with
     | false =>
      have bV:Hid (W.ku=false):=ah.uD (k:=k) (by rw [ij.out];exact bC) (by rw [k2.out,κ];simp);have dp:=aRV κ;clear κ;refine (o_ dp.out _).mono ?_;rintro e w' ⟨rfl,rfl⟩;go_wp2_with fail
      go_ret;exact ⟨h4 bV.out.symm,EX⟩
     | true =>
      have dp:=aRV κ;clear κ;refine (o_ dp.out _).mono ?_;rintro e w' ⟨rfl,rfl⟩;go_wp2_with fail
      cases aa:W.field.ground t.spot with
      | false =>
       have bV:Hid (W.ku=false):=ah.uD (k:=k) (by rw [ij.out];exact bC) (by rw [k2.out,aa];simp);have wL:=aRV aa;clear aa;have k0:=KF W.field t.spot eY fj _ JD.out wJ.out;rw [wL.out] at k0;refine k0.mono ?_;rintro e s_ ⟨rfl,du⟩;have EU:=rL.trans (du.mono rL.size);have xo:=mj.trans (EU.mono mj.size);have D2:=aRV (D1.out.later du);have JH:=aRV (JG.out.later du);have JC:=aRV (D0.out.later du);clear t0 t1 t2 t3 t4 t5 t6 bX c1 c2 c3 c4 c5 dB dT eJ k0;obtain ⟨t0,t1,t2,t3,t4,t5,t6⟩:=bf.ft D2.out;have AR:=cell_later du AR;go_wp2_with fail
       go_ret;exact ⟨h4 bV.out.symm,xo⟩
      | true =>
       have wL:=aRV aa;clear aa;have k0:=KF W.field t.spot eY fj _ JD.out wJ.out;rw [wL.out] at k0;refine k0.mono ?_;rintro e s_ ⟨rfl,du⟩;have EU:=rL.trans (du.mono rL.size);have xo:=mj.trans (EU.mono mj.size);have D2:=aRV (D1.out.later du);have JH:=aRV (JG.out.later du);have JC:=aRV (D0.out.later du);clear t0 t1 t2 t3 t4 t5 t6 bX c1 c2 c3 c4 c5 dB dT eJ k0;obtain ⟨t0,t1,t2,t3,t4,t5,t6⟩:=bf.ft D2.out;have AR:=cell_later du AR;go_wp2_with fail
       cases aw:cO t.c7 1 10 with
       | false =>
        have bV:Hid (W.ku=false):=ah.uD (k:=k) (by rw [ij.out];exact bC) (by rw [k2.out,aw];simp);have zT:=aRV aw;clear aw;refine (o_ zT.out _).mono ?_;rintro e w' ⟨rfl,rfl⟩;go_wp2_with fail
        go_ret;exact ⟨h4 bV.out.symm,xo⟩
       | true =>
        have zT:=aRV aw;clear aw;refine (o_ zT.out _).mono ?_;rintro e w' ⟨rfl,rfl⟩;go_wp2_with fail
        cases a6:cO t.load 0 5 with
        | false =>
         have bV:Hid (W.ku=false):=ah.uD (k:=k) (by rw [ij.out];exact bC) (by rw [k2.out,a6];simp);have zU:=aRV a6;clear a6;refine (o_ zU.out _).mono ?_;rintro e w' ⟨rfl,rfl⟩;go_wp2_with fail
         go_ret;exact ⟨h4 bV.out.symm,xo⟩
        | true =>
         have zU:=aRV a6;clear a6;refine (o_ zU.out _).mono ?_;rintro e w' ⟨rfl,rfl⟩;go_wp2_with fail
         have AO:t.spot.ok:=by
          obtain ⟨i1,i2,i3,i4,i5,i6⟩:=aD.idx wJ.out (aD.j8 wL.out);obtain ⟨g1,g2,g3,g4,_,_⟩:=aD.jN wJ.out;exact ⟨bG.2 (by omega),bG.2 (by omega)⟩
         obtain ⟨v,z6⟩:∃ v,Hid ((dz.get l t.spot).getD 0=v):=⟨_,aRV rfl⟩;obtain ⟨st,eA,ec,xY,sa,py⟩:=aeS JH.out Oi.out Oa.out t.spot AO v z6.out;obtain ⟨CO,bc,CP,f1,CQ,E5,LC,LD,AJ⟩:=py;have axI:0≤v∧v≤1:=by
          rw [← z6.out,BQ.out];split<;>simp
         have Tl:=aRV E5;have JN:=aRV LC;have zY:=aRV LD;have Hy:=(AJ (Nat.le_of_lt agL)).1 xo;have zQ:=aRV (JC.out.of_heap ((AJ (B:=0) (a:=s_) (aSG _)).2 _ (by omega)));have vZ:xY.cell? ⟨wr.heap.size,3,none⟩=some (.int .i64 t.spot.x):=(JN.out _ (by simp;omega)).trans t3;have Iu:xY.cell? ⟨wr.heap.size,4,none⟩=some (.int .i64 t.spot.y):=(JN.out _ (by simp;omega)).trans t4;have De:sa.cell? ⟨wr.heap.size,0,none⟩=some (.int .i64 t.id):=(zY.out _ (by simp;omega)).trans t0;have uB:sa.cell? ⟨wr.heap.size,3,none⟩=some (.int .i64 t.spot.x):=(zY.out _ (by simp;omega)).trans t3;have aCb:sa.cell? ⟨wr.heap.size,4,none⟩=some (.int .i64 t.spot.y):=(zY.out _ (by simp;omega)).trans t4;have g1:=CO 1;have g2:=bc 1;have g3:=CP 1;have g4:=f1 1;have g5:=CQ 1;clear E5 LC LD AJ CO bc CP f1 CQ;simp only [aed] at g1 g2 g3 g4 g5;cases rQ:(W.jf k).contains t.spot with
         | true =>
          have oV:v=1:=by rw [← z6.out,BQ.out,rQ];rfl
          subst oV;rw [show (1:Int)+1=2 from rfl] at g4 g5;have bV:Hid (W.ku=false):=ah.uD (k:=k) (by rw [ij.out];exact bC) (by rw [k2.out,rQ];simp);clear rQ
          go_region
          go_wp2_with fail
          go_ret;exact ⟨h4 bV.out.symm,below_drewN Hy 1⟩
         | false =>
          have oV:v=0:=by rw [← z6.out,BQ.out,rQ];rfl
          subst oV;rw [show (0:Int)+1=1 from rfl] at g4 g5;have pn:Hid (∀ j,j<k+1→W.xL j=true):=by
           intro j ay;by_cases gU:j<k
           ·exact hY.out j gU
           ·obtain rfl:j=k:=by omega
            rw [k2.out,zS.out,dp.out,wL.out,zT.out,zU.out,rQ];rfl
          have Tj:Hid (∀ c,dz.get (dz.put l lu t.spot (0+1)) c=if (W.jf (k+1)).contains c=true then some 1 else none):=by
           intro c;rw [dz.AB,abg.out,BQ.out];by_cases EZ:c=t.spot
           ·simp [EZ]
           ·rw [aR0 EZ];simp [EZ]
          have Ts:Hid (∀ e∈dz.put l lu t.spot (0+1),e.1.ok):=dz.X_ Oi.out AO;have Tk:Hid (((dz.put l lu t.spot (0+1)).map (·.1)).Nodup):=dz.HT Oa.out _ _ _;clear rQ AO
          go_region
          go_wp2_with fail
          go_roundw
          case rel=>exact ⟨k+1,_,_,by omega,by go_num,by rw [aa7.out],pn,Tl.out.drewN 1,Ts,Tk,Tj,zQ.out.drewN 1,below_drewN Hy 1⟩
          case measure=>simp [intOf];omega
   ·by_cases gl:t.kind=2
    ·have zZ:=aRV gl;rw [gl] at fl;clear pW gl;have JF:=aRV (λ V:World=>aiX V);have Lg:ah.ka 2=20:=rfl;have Li:ah.A6 2=0:=rfl;rw [zZ.out,Lg,Li] at dM;have k2:=aRV dM;clear Lg Li dM;have Tq:Hid (wr.alloc (.cells #[.int .i64 t.id, .int .i64 t.owner, .int .i64 2, .int .i64 t.spot.x, .int .i64 t.spot.y, .int .i64 t.c7, .int .i64 t.load] 66)=aW):=by rw [← JO.out,zZ.out];rfl
     go_wp2_with fail
     rw [Tq.out];refine (JF.out _).mono ?_;rintro e cF ⟨rfl,bw⟩;have vH:=cQ.trans (bw.mono cQ.size);have dG:=lr cF (.cells #[.int .i64 20, .int .i64 2, .int .i64 4, .int .i64 12] 207);have AE:=aP.new cF [.int .i64 20, .int .i64 2, .int .i64 4, .int .i64 12] 207 (0,0);obtain ⟨w3,Ea⟩:∃ w3,Hid (cF.alloc (.cells #[.int .i64 20, .int .i64 2, .int .i64 4, .int .i64 12] 207)=w3):=⟨_,aRV rfl⟩;rw [Ea.out] at dG;have AE:aP w3 cF.heap.size [.int .i64 20, .int .i64 2, .int .i64 4, .int .i64 12] 207 (0,0):=by rw [← Ea.out];exact AE
     have AR:w3.cell? ⟨cF.heap.size,0,none⟩=some (.int .i64 20):=AE.cell 0;have rL:=vH.trans (dG.mono vH.size);have D1:=aRV ((BP.out.later bw).later dG);have JG:=aRV (k1.out.later rL);have D0:=aRV (Gv.out.later rL);have EX:=mj.trans (rL.mono mj.size);have JD:=aRV (aa6.out.keep EX);obtain ⟨t0,t1,t2,t3,t4,t5,t6⟩:=bf.ft ((BP.out.later bw));rw [zZ.out] at t2;clear bX c1 c2 c3 c4 c5 dB dT eJ;obtain ⟨bX,c1,c2,c3,c4,c5,dB,dT,eJ⟩:=ah.th (Gv.out.later vH);rw [kh.out] at c3;rw [ij.out] at dB;have afX:wr.heap.size<cF.heap.size:=by have:=bw.size;have:=BP.out.lt;omega
     have afY:w.heap.size<cF.heap.size:=by have:=WY;omega
     go_wp2_with fail
     rw [Ea.out];clear t0 t1 t2 t3 t4 t5 t6 bX c1 c2 c3 c4 c5 dB dT eJ;obtain ⟨t0,t1,t2,t3,t4,t5,t6⟩:=bf.ft D1.out;obtain ⟨bX,c1,c2,c3,c4,c5,dB,dT,eJ⟩:=ah.th D0.out;rw [kh.out] at c3;rw [ij.out] at dB;rw [zZ.out] at t2;clear bw AE dG vH;cases aG:cO t.id iv Fz with
     | false =>
      have bV:Hid (W.ku=false):=ah.uD (k:=k) (by rw [ij.out];exact bC) (by rw [k2.out,aG];simp);have zS:=aRV aG;clear aG;refine (o_ zS.out _).mono ?_;rintro e w' ⟨rfl,rfl⟩;go_wp2_with fail
      go_ret;exact ⟨h4 bV.out.symm,EX⟩
     | true =>
      have zS:=aRV aG;clear aG;refine (o_ zS.out _).mono ?_;rintro e w' ⟨rfl,rfl⟩;go_wp2_with fail
      cases κ:cO t.owner 0 ((kr:Int) - 1) with
      | false =>
       have bV:Hid (W.ku=false):=ah.uD (k:=k) (by rw [ij.out];exact bC) (by rw [k2.out,κ];simp);have dp:=aRV κ;clear κ;refine (o_ dp.out _).mono ?_;rintro e w' ⟨rfl,rfl⟩;go_wp2_with fail
       go_ret;exact ⟨h4 bV.out.symm,EX⟩
      | true =>
       have dp:=aRV κ;clear κ;refine (o_ dp.out _).mono ?_;rintro e w' ⟨rfl,rfl⟩;go_wp2_with fail
       cases aa:W.field.ground t.spot with
       | false =>
        have bV:Hid (W.ku=false):=ah.uD (k:=k) (by rw [ij.out];exact bC) (by rw [k2.out,aa];simp);have wL:=aRV aa;clear aa;have k0:=KF W.field t.spot eY fj _ JD.out wJ.out;rw [wL.out] at k0;refine k0.mono ?_;rintro e s_ ⟨rfl,du⟩;have EU:=rL.trans (du.mono rL.size);have xo:=mj.trans (EU.mono mj.size);have D2:=aRV (D1.out.later du);have JH:=aRV (JG.out.later du);have JC:=aRV (D0.out.later du);clear t0 t1 t2 t3 t4 t5 t6 bX c1 c2 c3 c4 c5 dB dT eJ k0;obtain ⟨t0,t1,t2,t3,t4,t5,t6⟩:=bf.ft D2.out;have AR:=cell_later du AR;go_wp2_with fail
        go_ret;exact ⟨h4 bV.out.symm,xo⟩
       | true =>
        have wL:=aRV aa;clear aa;have k0:=KF W.field t.spot eY fj _ JD.out wJ.out;rw [wL.out] at k0;refine k0.mono ?_;rintro e s_ ⟨rfl,du⟩;have EU:=rL.trans (du.mono rL.size);have xo:=mj.trans (EU.mono mj.size);have D2:=aRV (D1.out.later du);have JH:=aRV (JG.out.later du);have JC:=aRV (D0.out.later du);clear t0 t1 t2 t3 t4 t5 t6 bX c1 c2 c3 c4 c5 dB dT eJ k0;obtain ⟨t0,t1,t2,t3,t4,t5,t6⟩:=bf.ft D2.out;have AR:=cell_later du AR;go_wp2_with fail
        cases aw:cO t.c7 1 20 with
        | false =>
         have bV:Hid (W.ku=false):=ah.uD (k:=k) (by rw [ij.out];exact bC) (by rw [k2.out,aw];simp);have zT:=aRV aw;clear aw;refine (o_ zT.out _).mono ?_;rintro e w' ⟨rfl,rfl⟩;go_wp2_with fail
         go_ret;exact ⟨h4 bV.out.symm,xo⟩
        | true =>
         have zT:=aRV aw;clear aw;refine (o_ zT.out _).mono ?_;rintro e w' ⟨rfl,rfl⟩;go_wp2_with fail
         cases a6:cO t.load 0 0 with
         | false =>
          have bV:Hid (W.ku=false):=ah.uD (k:=k) (by rw [ij.out];exact bC) (by rw [k2.out,a6];simp);have zU:=aRV a6;clear a6;refine (o_ zU.out _).mono ?_;rintro e w' ⟨rfl,rfl⟩;go_wp2_with fail
          go_ret;exact ⟨h4 bV.out.symm,xo⟩
         | true =>
          have zU:=aRV a6;clear a6;refine (o_ zU.out _).mono ?_;rintro e w' ⟨rfl,rfl⟩;go_wp2_with fail
          have AO:t.spot.ok:=by
           obtain ⟨i1,i2,i3,i4,i5,i6⟩:=aD.idx wJ.out (aD.j8 wL.out);obtain ⟨g1,g2,g3,g4,_,_⟩:=aD.jN wJ.out;exact ⟨bG.2 (by omega),bG.2 (by omega)⟩
          obtain ⟨v,z6⟩:∃ v,Hid ((dz.get l t.spot).getD 0=v):=⟨_,aRV rfl⟩;obtain ⟨st,eA,ec,xY,sa,py⟩:=aeS JH.out Oi.out Oa.out t.spot AO v z6.out;obtain ⟨CO,bc,CP,f1,CQ,E5,LC,LD,AJ⟩:=py;have axI:0≤v∧v≤1:=by
           rw [← z6.out,BQ.out];split<;>simp
          have Tl:=aRV E5;have JN:=aRV LC;have zY:=aRV LD;have Hy:=(AJ (Nat.le_of_lt agL)).1 xo;have zQ:=aRV (JC.out.of_heap ((AJ (B:=0) (a:=s_) (aSG _)).2 _ (by omega)));have vZ:xY.cell? ⟨wr.heap.size,3,none⟩=some (.int .i64 t.spot.x):=(JN.out _ (by simp;omega)).trans t3;have Iu:xY.cell? ⟨wr.heap.size,4,none⟩=some (.int .i64 t.spot.y):=(JN.out _ (by simp;omega)).trans t4;have De:sa.cell? ⟨wr.heap.size,0,none⟩=some (.int .i64 t.id):=(zY.out _ (by simp;omega)).trans t0;have uB:sa.cell? ⟨wr.heap.size,3,none⟩=some (.int .i64 t.spot.x):=(zY.out _ (by simp;omega)).trans t3;have aCb:sa.cell? ⟨wr.heap.size,4,none⟩=some (.int .i64 t.spot.y):=(zY.out _ (by simp;omega)).trans t4;have g1:=CO 1;have g2:=bc 1;have g3:=CP 1;have g4:=f1 1;have g5:=CQ 1;clear E5 LC LD AJ CO bc CP f1 CQ;simp only [aed] at g1 g2 g3 g4 g5;cases rQ:(W.jf k).contains t.spot with
          | true =>
           have oV:v=1:=by rw [← z6.out,BQ.out,rQ];rfl
           subst oV;rw [show (1:Int)+1=2 from rfl] at g4 g5;have bV:Hid (W.ku=false):=ah.uD (k:=k) (by rw [ij.out];exact bC) (by rw [k2.out,rQ];simp);clear rQ
           go_region
           go_wp2_with fail
           go_ret;exact ⟨h4 bV.out.symm,below_drewN Hy 1⟩
          | false =>
           have oV:v=0:=by rw [← z6.out,BQ.out,rQ];rfl
           subst oV;rw [show (0:Int)+1=1 from rfl] at g4 g5;have pn:Hid (∀ j,j<k+1→W.xL j=true):=by
            intro j ay;by_cases gU:j<k
            ·exact hY.out j gU
            ·obtain rfl:j=k:=by omega
             rw [k2.out,zS.out,dp.out,wL.out,zT.out,zU.out,rQ];rfl
           have Tj:Hid (∀ c,dz.get (dz.put l lu t.spot (0+1)) c=if (W.jf (k+1)).contains c=true then some 1 else none):=by
            intro c;rw [dz.AB,abg.out,BQ.out];by_cases EZ:c=t.spot
            ·simp [EZ]
            ·rw [aR0 EZ];simp [EZ]
           have Ts:Hid (∀ e∈dz.put l lu t.spot (0+1),e.1.ok):=dz.X_ Oi.out AO;have Tk:Hid (((dz.put l lu t.spot (0+1)).map (·.1)).Nodup):=dz.HT Oa.out _ _ _;clear rQ AO
           go_region
           go_wp2_with fail
           go_roundw
           case rel=>exact ⟨k+1,_,_,by omega,by go_num,by rw [aa7.out],pn,Tl.out.drewN 1,Ts,Tk,Tj,zQ.out.drewN 1,below_drewN Hy 1⟩
           case measure=>simp [intOf];omega
    ·have WQ:cO t.kind 1 2=false:=p0 (by omega);have bV:Hid (W.ku=false):=ah.uD (k:=k) (by rw [ij.out];exact bC) (by rw [dM,WQ];rfl);have JF:=aRV (λ V:World=>aiY t.kind V WQ);have agb:(t.kind == 1)=false:=by simpa using pW
     clear dM WQ pW gl;go_wp2_with fail
     rw [JO.out];refine (JF.out _).mono ?_;rintro e cF ⟨rfl,bw⟩;have vH:=cQ.trans (bw.mono cQ.size);obtain ⟨t0,t1,t2,t3,t4,t5,t6⟩:=bf.ft ((BP.out.later bw));clear bX c1 c2 c3 c4 c5 dB dT eJ;obtain ⟨bX,c1,c2,c3,c4,c5,dB,dT,eJ⟩:=ah.th (Gv.out.later vH);have afX:wr.heap.size<cF.heap.size:=by have:=bw.size;have:=BP.out.lt;omega
     have afY:w.heap.size<cF.heap.size:=by have:=WY;omega
     go_wp2_with fail
     go_ret;exact ⟨h4 bV.out.symm,(mj.trans (vH.mono mj.size)).trans ((lr _ _).mono (by omega))⟩
  ·obtain rfl:k=eg:=by omega
   have dF:∀ j,j<W.ao.length→W.xL j=true:=λ j ay=>hY.out j (by rw [ij.out] at ay;exact ay);have pZ:W.ku=(cO W.next 1 1000000 && cO W.now 0 1000000):=by
    unfold ah.ku;rw [aSL.2 (λ j ay=>dF j (aSB.1 ay)),aUM]
   have z1:=aRV pZ;clear dF pZ vJ;cases κ:cO W.next 1 1000000 with
   | false =>
    have H1:=aRV κ;clear κ;go_wp2_with fail
    refine (o_ H1.out _).mono ?_;rintro e w' ⟨rfl,rfl⟩;go_wp2_with fail
    go_ret;exact ⟨h4 (by rw [z1.out,H1.out];rfl),mj⟩
   | true =>
    have E3:=λ V=>Sx W.now 0 1000000 V;have H1:=aRV κ;rw [H1.out,aUM] at z1;clear κ;generalize cO W.now 0 1000000=r2 at *
    go_wp2_with fail
    refine (o_ H1.out _).mono ?_;rintro e w' ⟨rfl,rfl⟩;go_wp2_with fail
    refine (E3 _).mono ?_;rintro e w' ⟨rfl,rfl⟩;go_wp2_with fail
    go_ret;exact ⟨h4 z1.out.symm,mj⟩
end
end Go.Proofs.YtlikikpgmmkjbaaGreat
