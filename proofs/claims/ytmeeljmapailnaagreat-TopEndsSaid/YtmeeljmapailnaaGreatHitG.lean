import Derived.Test.YtmeeljmapailnaaGreatBlw
set_option linter.unusedVariables false
set_option linter.unusedSimpArgs false
set_option maxRecDepth 100000
set_option maxHeartbeats 4000000
open Go.RowKit
namespace Go.Proofs.YtmeeljmapailnaaGreat
open Tryz
abbrev aZU:=@List.foldl_append
abbrev baA:=@List.setIfInBounds_toArray
abbrev bcx:=@Go.wpQuiet_nil
abbrev bde:=@List.length_take_le
abbrev bdn:=@Go.World.cell?_of_block
theorem aHO (a:ai.b7) (W:ai) (w:World) (bZ:ai.Has w a W) (aG:W.field.a7=0) (gB:W.bf.length≤8):
    Calls prog 65 #[.agg (ai.cells a W).toArray] w λ e w'=>e= .returned (.bool W.pE)∧Below w.heap.size w w':=by
  obtain ⟨fH,gU,gV,gd,fM,fQ,gv,hg,gF,gh⟩:=a;show Calls _ _ #[.agg #[.int .i64 W.field.wide, .int .i64 W.field.high, .slice fH W.field.a_.length fQ, .slice gU W.bf.length gv, .slice gV W.bE.length hg, .slice gd W.bX.length gF, .slice fM W.ao.length gh, .int .i64 W.next, .int .i64 W.now]] _ _;obtain ⟨iJ,lC⟩:∃ n,Hid (W.bf.length=n):=⟨_,aYe rfl⟩;obtain ⟨ns,B'⟩:∃ n,Hid (W.bE.length=n):=⟨_,aYe rfl⟩;have gB:iJ≤8:=by rw [← lC.out];exact gB
  have cV:=mN w (.cells (ai.cells ⟨fH,gU,gV,gd,fM,fQ,gv,hg,gF,gh⟩ W).toArray 28);have ku:=aYe (aM.new w (ai.cells ⟨fH,gU,gV,gd,fM,fQ,gv,hg,gF,gh⟩ W) 28 (0,0));have nY:=aYe (bZ.keep cV);have yz:=aYe aG;obtain ⟨w0,kv⟩:∃ w0,Hid (w.alloc (.cells (ai.cells ⟨fH,gU,gV,gd,fM,fQ,gv,hg,gF,gh⟩ W).toArray 28)=w0):=⟨_,aYe rfl⟩;rw [kv.out] at cV nY;have ku:Hid (aM w0 w.heap.size (ai.cells ⟨fH,gU,gV,gd,fM,fQ,gv,hg,gF,gh⟩ W) 28 (0,0)):=by rw [← kv.out];exact ku
  have qG:Hid (w.alloc (.cells #[.int .i64 W.field.wide, .int .i64 W.field.high, .slice fH W.field.a_.length fQ, .slice gU iJ gv, .slice gV ns hg, .slice gd W.bX.length gF, .slice fM W.ao.length gh, .int .i64 W.next, .int .i64 W.now] 28)=w0):=by rw [← kv.out,← lC.out,← B'.out];rfl
  obtain ⟨ck,c1,c2,c3,c4,c5,ek,eH,fx⟩:=ai.vl ku.out;rw [lC.out] at c3;rw [B'.out] at c4;clear bZ aG;by_cases hlen:ns=iJ
  · subst hlen
    have En:Hid (∀ j,j<0→W.zC j=true):=aYe λ j ay=>absurd ay (by omega);go_enter func65,ntmps65;rw [lC.out,B'.out];go_wp2_with fail
    rw [qG.out];go_loopw [3,4,15] (λ _ _ ih wr=>∃ k:Nat,k≤ns∧ih= .int .i64 (k:Int)∧Hid (∀ j,j<k→W.zC j=true)∧Below w0.heap.size w0 wr) (λ _ _ ih _=>ns - (intOf ih).toNat)
    case atStart=>exact ⟨0,aYX _,rfl,En,aYG _ _⟩
    case round =>
      clear En ck c1 c2 c3 c4 c5 ek eH fx;obtain ⟨k,ak,rfl,iQ,ag⟩:=hrel;by_cases bF:k<ns
      · obtain ⟨p,hp⟩:=ic (l:=W.bf) (i:=k) (by rw [lC.out];exact bF)
        obtain ⟨st,hs⟩:=ic (l:=W.bE) (i:=k) (by rw [B'.out];exact bF);have Tq:=nY.out.keep ag;have ajg:=ku.out.later ag;have Tp:az.rep.aK 16 wr gU gv W.bf:=Tq.B;have Od:bu.aK 8 wr fH fQ W.field.a_:=Tq.P;have ajo:bu.aK 8 wr gV hg W.bE:=Tq.S;have aaB:(ns:Int)≤(gv:Int):=by have:=Tp.1;rw [lC.out] at this;omega
        obtain ⟨b,o,rfl,kD⟩:=az.at_ Tp (by rw [lC.out];omega);obtain ⟨IU,nO⟩:=kD k p hp;obtain ⟨c7,os,rfl,TI⟩:=F6 ajo (by rw [B'.out];omega);have adf:=TI k st hs;obtain ⟨ck,c1,c2,c3,c4,c5,ek,eH,fx⟩:=ai.vl ajg;rw [lC.out] at c3;rw [B'.out] at c4;have di:W.zC k=(W.field.ground p && !(W.bf.take k).contains p && b9 st 0 1000000):=by
          unfold ai.zC;rw [aX7,hp,aX7,hs];rfl
        have dc:=mN wr (.cells #[.int .i64 p.x, .int .i64 p.y] 55);have To:=aM.new wr p.cells 55 (0,0);obtain ⟨w1,Xj⟩:∃ w1,Hid (wr.alloc (.cells #[.int .i64 p.x, .int .i64 p.y] 55)=w1):=⟨_,aYe rfl⟩;rw [Xj.out] at dc;have To:aM w1 wr.heap.size p.cells 55 (0,0):=by rw [← Xj.out];exact To
        obtain ⟨F5,r1⟩:=az.fI To;have mh:=aYe (λ (V:World) (h:Below w1.heap.size w1 V)=>Oa W.field p fH fQ V ((Od.keep dc).keep h) yz.out);have B5:=aYe (λ (V:World) (h:Below w1.heap.size w1 V)=>aBv p (some ⟨b,o,none⟩) gv (W.bf.take k) V (((Tp.LN k).keep dc).keep h));have j0:(W.bf.take k).length=k:=by rw [aYa,lC.out];omega
        rw [j0] at B5;have nB:=aYe (λ (V:World)=>V' st 0 1000000 V);have mj:=aYe di;have Fk:=ag.trans (dc.mono ag.size);have q9:(k:Int)<(ns:Int):=by omega
        have q7:(0:Int)≤(k:Int):=by omega
        have aCs:(k:Int)≤(gv:Int):=by omega
        have aa2:k≤gv:=by omega
        clear Tq ajg kD TI hp hs di j0 Tp Od ajo;go_wp2_with fail
        rw [Xj.out];have ck:=cell_later dc ck;have c1:=cell_later dc c1;have c2:=cell_later dc c2;have c3:=cell_later dc c3;have c4:=cell_later dc c4;have adf:=cell_later dc adf;have gL:=aYe (λ (nx:World) (h:Below w1.heap.size w1 nx)=>(⟨trivial,cell_later h ck,cell_later h c1,cell_later h c2,cell_later h c3,cell_later h c4,cell_later h F5,cell_later h r1,cell_later h adf⟩:True∧nx.cell? ⟨w.heap.size,0,none⟩=some (.int .i64 W.field.wide)∧nx.cell? ⟨w.heap.size,1,none⟩=some (.int .i64 W.field.high)∧nx.cell? ⟨w.heap.size,2,none⟩=some (.slice fH W.field.a_.length fQ)∧nx.cell? ⟨w.heap.size,3,none⟩=some (.slice (some ⟨b,o,none⟩) ns gv)∧nx.cell? ⟨w.heap.size,4,none⟩=some (.slice (some ⟨c7,os,none⟩) ns hg)∧nx.cell? ⟨wr.heap.size,0,none⟩=some (.int .i64 p.x)∧nx.cell? ⟨wr.heap.size,1,none⟩=some (.int .i64 p.y)∧nx.cell? ⟨c7,os+k,none⟩=some (.int .i64 st)));clear IU nO c5 ek eH fx To;cases κ:W.field.ground p with
        | false =>
          rw [κ] at mh;have cI:Hid (W.pE=false):=ai.acO (k:=k) (by rw [lC.out];exact bF) (by rw [mj.out,κ];rfl);clear κ;refine Wd (by kernel_rfl) (by kernel_rfl) ?_;repeat (first
            | go_big_quiet_skip
            | (go_big_quiet_want
               first
               | (go_big_quiet_op;go_big_quiet_on)
               | (apply Exists.intro
                  refine ⟨λ Jk I=> ?_, ?_⟩
                  · first
                    | (obtain ⟨_,acU,acV,acW,acX,acY,acZ,ac0,ac1⟩:=gL.out Jk I
                       apply Ve
                       · (go_simp;rfl)
                       · rfl)
                    | (apply Vd
                       · (go_simp;rfl)
                       · rfl
                       · first
                         | (with_reducible refine (mh.out _ I).mono ?_;rintro e cx ⟨rfl,bI⟩;exact ⟨rfl,o_ I bI⟩)
                         | (with_reducible refine (B5.out _ I).mono ?_;rintro e cx ⟨rfl,bI⟩;exact ⟨rfl,o_ I bI⟩)
                         | (with_reducible refine (nB.out _).mono ?_;rintro e cx ⟨rfl,rfl⟩;exact ⟨rfl,I⟩)
                       )
                  go_big_quiet_on
                  simp only [Act.put,baA,bam,ban])))
          refine bcx ?_;intro DU bc;go_wp2_with fail
          go_ret;exact ⟨iX cI.out.symm,cV.trans ((Fk.trans (bcN bc Fk.size)).mono cV.size)⟩
        | true =>
          rw [κ] at mh;cases τ:(W.bf.take k).contains p with
          | true =>
            rw [τ] at B5;have cI:Hid (W.pE=false):=ai.acO (k:=k) (by rw [lC.out];exact bF) (by rw [mj.out,κ,τ];rfl);clear κ τ;refine Wd (by kernel_rfl) (by kernel_rfl) ?_;repeat (first
              | go_big_quiet_skip
              | (go_big_quiet_want
                 first
                 | (go_big_quiet_op;go_big_quiet_on)
                 | (apply Exists.intro
                    refine ⟨λ Jk I=> ?_, ?_⟩
                    · first
                      | (obtain ⟨_,acU,acV,acW,acX,acY,acZ,ac0,ac1⟩:=gL.out Jk I
                         apply Ve
                         · (go_simp;rfl)
                         · rfl)
                      | (apply Vd
                         · (go_simp;rfl)
                         · rfl
                         · first
                           | (with_reducible refine (mh.out _ I).mono ?_;rintro e cx ⟨rfl,bI⟩;exact ⟨rfl,o_ I bI⟩)
                           | (with_reducible refine (B5.out _ I).mono ?_;rintro e cx ⟨rfl,bI⟩;exact ⟨rfl,o_ I bI⟩)
                           | (with_reducible refine (nB.out _).mono ?_;rintro e cx ⟨rfl,rfl⟩;exact ⟨rfl,I⟩)
                         )
                    go_big_quiet_on
                    simp only [Act.put,baA,bam,ban])))
            refine bcx ?_;intro DU bc;go_wp2_with fail
            go_ret;exact ⟨iX cI.out.symm,cV.trans ((Fk.trans (bcN bc Fk.size)).mono cV.size)⟩
          | false =>
            rw [τ] at B5;cases au:b9 st 0 1000000 with
            | false =>
              rw [au] at nB;have cI:Hid (W.pE=false):=ai.acO (k:=k) (by rw [lC.out];exact bF) (by rw [mj.out,au,aZF]);clear κ τ au;refine Wd (by kernel_rfl) (by kernel_rfl) ?_;repeat (first
                | go_big_quiet_skip
                | (go_big_quiet_want
                   first
                   | (go_big_quiet_op;go_big_quiet_on)
                   | (apply Exists.intro
                      refine ⟨λ Jk I=> ?_, ?_⟩
                      · first
                        | (obtain ⟨_,acU,acV,acW,acX,acY,acZ,ac0,ac1⟩:=gL.out Jk I
                           apply Ve
                           · (go_simp;rfl)
                           · rfl)
                        | (apply Vd
                           · (go_simp;rfl)
                           · rfl
                           · first
                             | (with_reducible refine (mh.out _ I).mono ?_;rintro e cx ⟨rfl,bI⟩;exact ⟨rfl,o_ I bI⟩)
                             | (with_reducible refine (B5.out _ I).mono ?_;rintro e cx ⟨rfl,bI⟩;exact ⟨rfl,o_ I bI⟩)
                             | (with_reducible refine (nB.out _).mono ?_;rintro e cx ⟨rfl,rfl⟩;exact ⟨rfl,I⟩)
                           )
                      go_big_quiet_on
                      simp only [Act.put,baA,bam,ban])))
              refine bcx ?_;intro DU bc;go_wp2_with fail
              go_ret;exact ⟨iX cI.out.symm,cV.trans ((Fk.trans (bcN bc Fk.size)).mono cV.size)⟩
            | true =>
              rw [au] at nB;have qF:Hid (∀ j,j<k+1→W.zC j=true):=by
                intro j ay;by_cases hU:j<k
                · exact iQ.out j hU
                · obtain rfl:j=k:=by omega
                  rw [mj.out,κ,τ,au];rfl
              clear κ τ au;refine Wd (by kernel_rfl) (by kernel_rfl) ?_;repeat (first
                | go_big_quiet_skip
                | (go_big_quiet_want
                   first
                   | (go_big_quiet_op;go_big_quiet_on)
                   | (apply Exists.intro
                      refine ⟨λ Jk I=> ?_, ?_⟩
                      · first
                        | (obtain ⟨_,acU,acV,acW,acX,acY,acZ,ac0,ac1⟩:=gL.out Jk I
                           apply Ve
                           · (go_simp;rfl)
                           · rfl)
                        | (apply Vd
                           · (go_simp;rfl)
                           · rfl
                           · first
                             | (with_reducible refine (mh.out _ I).mono ?_;rintro e cx ⟨rfl,bI⟩;exact ⟨rfl,o_ I bI⟩)
                             | (with_reducible refine (B5.out _ I).mono ?_;rintro e cx ⟨rfl,bI⟩;exact ⟨rfl,o_ I bI⟩)
                             | (with_reducible refine (nB.out _).mono ?_;rintro e cx ⟨rfl,rfl⟩;exact ⟨rfl,I⟩)
                           )
                      go_big_quiet_on
                      simp only [Act.put,baA,bam,ban])))
              refine bcx ?_;intro DU bc;go_wp2_with fail
              go_roundw
              case rel=>exact ⟨k+1,by omega,by go_num,qF,Fk.trans (bcN bc Fk.size)⟩
              case measure=>simp [intOf];omega
      · have sT:Hid (W.pE=true):=ai.an3 (by rw [B'.out,lC.out]) λ j ay=>iQ.out j (by rw [lC.out] at ay;omega)
        clear iQ;go_wp2_with fail
        go_ret;exact ⟨iX sT.out.symm,cV.trans (ag.mono cV.size)⟩
  · have sT:Hid (W.pE=false):=ai.aHP (by rw [B'.out,lC.out];exact hlen)
    have hd:((ns:Int) != (iJ:Int))=true:=by simp;omega
    rw [sT.out];go_enter func65,ntmps65;rw [lC.out,B'.out];go_wp2_with fail
    go_ret;rw [qG.out];exact ⟨Z,cV⟩
theorem aGm (a:ai.b7) (W:ai) (w:World) (bZ:ai.Has w a W):
  Calls prog 66 #[.agg (ai.cells a W).toArray] w λ e w'=>e= .returned (.bool W.ql)∧Below w.heap.size w w':=by
 obtain ⟨fH,gU,gV,gd,fM,fQ,gv,hg,gF,gh⟩:=a;show Calls _ _ #[.agg #[.int .i64 W.field.wide, .int .i64 W.field.high, .slice fH W.field.a_.length fQ, .slice gU W.bf.length gv, .slice gV W.bE.length hg, .slice gd W.bX.length gF, .slice fM W.ao.length gh, .int .i64 W.next, .int .i64 W.now]] _ _;have cV:=mN w (.cells (ai.cells ⟨fH,gU,gV,gd,fM,fQ,gv,hg,gF,gh⟩ W).toArray 28);have ku:=aYe (aM.new w (ai.cells ⟨fH,gU,gV,gd,fM,fQ,gv,hg,gF,gh⟩ W) 28 (0,0));have nY:=aYe (bZ.keep cV);obtain ⟨w0,kv⟩:∃ w0,Hid (w.alloc (.cells (ai.cells ⟨fH,gU,gV,gd,fM,fQ,gv,hg,gF,gh⟩ W).toArray 28)=w0):=⟨_,aYe rfl⟩;rw [kv.out] at cV nY;have ku:Hid (aM w0 w.heap.size (ai.cells ⟨fH,gU,gV,gd,fM,fQ,gv,hg,gF,gh⟩ W) 28 (0,0)):=by rw [← kv.out];exact ku
 obtain ⟨nm,vC⟩:∃ n,Hid (W.bX.length=n):=⟨_,aYe rfl⟩;obtain ⟨PN,B_⟩:∃ n,Hid (W.field.a_.length=n):=⟨_,aYe rfl⟩;have hle:nm≤9223372036854775807:=by have:=bZ.M.fa;rw [vC.out] at this;exact this
 have qG:Hid (w.alloc (.cells #[.int .i64 W.field.wide, .int .i64 W.field.high, .slice fH PN fQ, .slice gU W.bf.length gv, .slice gV W.bE.length hg, .slice gd nm gF, .slice fM W.ao.length gh, .int .i64 W.next, .int .i64 W.now] 28)=w0):=by rw [← kv.out,← vC.out,← B_.out];rfl
 obtain ⟨ck,c1,c2,c3,c4,c5,ek,eH,fx⟩:=ai.vl ku.out;rw [B_.out] at c2;rw [vC.out] at c5;clear bZ;by_cases hlen:nm=PN
 ·subst hlen;have En:Hid (∀ j,j<0→W.zD j=true):=aYe λ j ay=>absurd ay (by omega);go_enter func66,ntmps66;rw [B_.out,vC.out];go_wp2_with fail
  rw [qG.out];go_loopw [3,4,16] (λ _ _ ih wr=>∃ k:Nat,k≤nm∧ih= .int .i64 (k:Int)∧Hid (∀ j,j<k→W.zD j=true)∧Hid (wr=w0)) (λ _ _ ih _=>nm - (intOf ih).toNat)
  case atStart=>exact ⟨0,aYX _,rfl,En,rfl⟩
  case round =>
   clear En ck c1 c2 c3 c4 c5 ek eH fx;obtain ⟨k,ak,rfl,iQ,JQ⟩:=hrel;obtain ⟨ck,c1,c2,c3,c4,c5,ek,eH,fx⟩:=ai.vl (show aM wr w.heap.size (ai.cells ⟨fH,gU,gV,gd,fM,fQ,gv,hg,gF,gh⟩ W) 28 (0,0) by rw [JQ.out];exact ku.out);rw [B_.out] at c2;rw [vC.out] at c5;have nJ:Below w.heap.size w wr:=by rw [JQ.out];exact cV
   by_cases bF:k<nm
   ·obtain ⟨p,hp⟩:=ic (l:=W.field.a_) (i:=k) (by rw [B_.out];exact bF);obtain ⟨m,hm⟩:=ic (l:=W.bX) (i:=k) (by rw [vC.out];exact bF);have Od:bu.aK 8 wr fH fQ W.field.a_:=by rw [JQ.out];exact nY.out.P
    have ajn:bu.aK 8 wr gd gF W.bX:=by rw [JQ.out];exact nY.out.M
    obtain ⟨b,o,rfl,kD⟩:=F6 Od (by rw [B_.out];omega);have IU:=kD k p hp;obtain ⟨aP2,aVu,rfl,ajX⟩:=F6 ajn (by rw [vC.out];omega);have aUl:=ajX k m hm;have di:W.zD k=(b9 m 0 1000000 && (decide (m≤0) || p == 3)):=by
     unfold ai.zD;rw [aX7,hm,aX7,hp];rfl
    have nB:=aYe (λ (V:World)=>V' m 0 1000000 V);have mj:=aYe di;have q9:(k:Int)<(nm:Int):=by omega
    have q7:(0:Int)≤(k:Int):=by omega
    clear Od ajn kD ajX hp hm di;cases κ:b9 m 0 1000000 with
    | false =>
     rw [κ] at nB;have cI:Hid (W.ql=false):=ai.anr (k:=k) (by rw [vC.out];exact bF) (by rw [mj.out,κ];rfl);clear κ;go_wp2_with fail
     refine (nB.out _).mono ?_;rintro e w' ⟨rfl,rfl⟩;go_wp2_with fail
     go_ret;exact ⟨iX cI.out.symm,nJ⟩
    | true =>
     rw [κ] at nB;by_cases τ:m≤0
     ·have hd:decide (0<m)=false:=by simp;omega
      have qF:Hid (∀ j,j<k+1→W.zD j=true):=by
       intro j ay;by_cases hU:j<k
       ·exact iQ.out j hU
       ·obtain rfl:j=k:=by omega
        rw [mj.out,κ,aYD τ];rfl
      clear κ;go_wp2_with fail
      refine (nB.out _).mono ?_;rintro e w' ⟨rfl,rfl⟩;go_wp2_with fail
      go_roundw
      case rel=>exact ⟨k+1,by omega,by go_num,qF,JQ⟩
      case measure=>simp [intOf];omega
     ·have hd:decide (0<m)=true:=by simp;omega
      by_cases au:p=3
      ·subst au;have qF:Hid (∀ j,j<k+1→W.zD j=true):=by
        intro j ay;by_cases hU:j<k
        ·exact iQ.out j hU
        ·obtain rfl:j=k:=by omega
         rw [mj.out,κ];simp
       clear κ τ;go_wp2_with fail
       refine (nB.out _).mono ?_;rintro e w' ⟨rfl,rfl⟩;go_wp2_with fail
       go_roundw
       case rel=>exact ⟨k+1,by omega,by go_num,qF,JQ⟩
       case measure=>simp [intOf];omega
      ·have cI:Hid (W.ql=false):=ai.anr (k:=k) (by rw [vC.out];exact bF) (by rw [mj.out,aYL τ,beq_false_of_ne au];simp);have KQ:(p == 3)=false:=by simpa using au
       clear κ τ au;go_wp2_with fail
       refine (nB.out _).mono ?_;rintro e w' ⟨rfl,rfl⟩;go_wp2_with fail
       go_ret;exact ⟨iX cI.out.symm,nJ⟩
   ·have sT:Hid (W.ql=true):=ai.ans (by rw [vC.out,B_.out]) λ j ay=>iQ.out j (by rw [vC.out] at ay;omega);clear iQ;go_wp2_with fail
    go_ret;exact ⟨iX sT.out.symm,nJ⟩
 ·have sT:Hid (W.ql=false):=ai.aGn (by rw [vC.out,B_.out];exact hlen);have hd:((nm:Int) != (PN:Int))=true:=by simp;omega
  rw [sT.out];go_enter func66,ntmps66;rw [B_.out,vC.out];go_wp2_with fail
  go_ret;rw [qG.out];exact ⟨Z,cV⟩
section
variable {b:Nat} {w:World}
theorem qu {n lo hi:Int} {b:Bool} (h:b9 n lo hi=b) (w:World):Calls prog 113 #[.int .i64 n, .int .i64 lo, .int .i64 hi] w λ e w'=>e= .returned (.bool b)∧w=w':=by
 have:=V' n lo hi w;rw [h] at this;exact this
theorem ej.drewN {fT:Type} {key:fT→Value} {l:List (fT×Int×Nat)} {clock:Nat} (h:ej key w b l clock) (n:Nat):ej key (w.drewN n) b l clock:=⟨h.fI,h.born,h.stamps⟩
theorem ahR (w:World):w.drewN 1=w.drew:=rfl
theorem aM.of_heap {w':World} {g:Nat} {cur:List Value} {e:TypeId} {aD:Nat×Nat} (h:aM w g cur e aD) (eI:w'.heap[g]? =w.heap[g]?):aM w' g cur e aD:=eI.trans h
theorem aiy {l:List (az×Int×Nat)} {mP:Nat} (h:ej az.key w b l mP) (hw:∀ e∈l,e.1.ok) (hn:(l.map (·.1)).Nodup) (x:az) (hx:x.ok) (v:Int) (hv:(ej.get l x).getD 0=v):
  ∃ (st:Nat) (fo:List (az×Int×Nat)) (c1:Nat) (Ja tZ:World),
   (∀ n,(Instr.lookup 205 (.map (some b)) (.agg #[.int .i64 x.x, .int .i64 x.y]) false).run prog (w.drewN n)= .ok (.int .i64 v) (w.drewN n))∧
   (∀ n,(Instr.mapEntry 205 (.map (some b)) (.agg #[.int .i64 x.x, .int .i64 x.y])).run prog (w.drewN n)= .ok (.tuple #[.int .i64 v, .int .i64 (st:Int)]) (Ja.drewN n))∧
   (∀ n,(Instr.lookup 205 (.map (some b)) (.agg #[.int .i64 x.x, .int .i64 x.y]) false).run prog (Ja.drewN n)= .ok (.int .i64 v) (Ja.drewN n))∧
   (∀ n,(Instr.entryStore 205 (.map (some b)) (.int .i64 (st:Int)) (.int .i64 (v+1))).run prog (Ja.drewN n)= .ok () (tZ.drewN n))∧
   (∀ n,(Instr.lookup 205 (.map (some b)) (.agg #[.int .i64 x.x, .int .i64 x.y]) false).run prog (tZ.drewN n)= .ok (.int .i64 (v+1)) (tZ.drewN n))∧
   ej az.key tZ b (ej.put l mP x (v+1)) (ej.tick l mP x)∧
   (∀ p:Addr,p.block≠b→Ja.cell? p=w.cell? p)∧(∀ p:Addr,p.block≠b→tZ.cell? p=w.cell? p)∧
   ∀ {B:Nat} {a:World},B≤b→(Below B a w→Below B a tZ)∧(∀ g,g≠b→tZ.heap[g]? =w.heap[g]?):=by
 obtain ⟨st,fo,dw,aW,bb,df,jy,HC,HD⟩:=ej.entry az.Bg underlying205 bbn h hw hn x hx;have Fy:=λ n=>(ej.lookup (w:=w.drewN n) az.Bg underlying205 (bbn _) (h.drewN n) hw hn x hx).1;have Fz:=λ n=>(ej.lookup (w:=(j4 w b (fo.map (eo az.key)).toArray dw).drewN n) az.Bg underlying205 (bbn _) (bb.drewN n) df jy x hx).1;have hp:=(HD (v+1) 0).2;have FA:=λ n=>(ej.lookup (w:=(j4 w b ((ej.put l mP x (v+1)).map (eo az.key)).toArray (ej.tick l mP x)).drewN n) az.Bg underlying205 (bbn _) (hp.drewN n) (ej.acg hw hx) (ej.K7 hn mP x (v+1)) x hx).1;simp only [HC,hv,aZm] at Fy Fz aW;simp only [ej.CT,aYq,aZm] at FA;exact ⟨st,fo,dw,_,_,Fy,aW,Fz,λ n=>(HD (v+1) n).1,FA,hp,λ p hp=>bdn (P8 hp),λ p hp=>bdn (P8 hp),
  fun {B a} bg=>⟨λ ag=>aJp ag bg,λ g aN=>P8 aN⟩⟩
theorem aKl (a:ai.b7) (W:ai) (w:World) (bZ:ai.Has w a W) (aG:W.field.a7=0) (gB:W.bf.length≤8) (y3:W.ao.length≤100):
  Calls prog 67 #[.agg (ai.cells a W).toArray] w λ e w'=>e= .returned (.bool W.lQ)∧Below w.heap.size w w':=by
 obtain ⟨fH,gU,gV,gd,fM,fQ,gv,hg,gF,gh⟩:=a;show Calls _ _ #[.agg #[.int .i64 W.field.wide, .int .i64 W.field.high, .slice fH W.field.a_.length fQ, .slice gU W.bf.length gv, .slice gV W.bE.length hg, .slice gd W.bX.length gF, .slice fM W.ao.length gh, .int .i64 W.next, .int .i64 W.now]] _ _;have cV:=mN w (.cells (ai.cells ⟨fH,gU,gV,gd,fM,fQ,gv,hg,gF,gh⟩ W).toArray 28);have ku:=aYe (aM.new w (ai.cells ⟨fH,gU,gV,gd,fM,fQ,gv,hg,gF,gh⟩ W) 28 (0,0));have nY:=aYe (bZ.keep cV);obtain ⟨w0,kv⟩:∃ w0,Hid (w.alloc (.cells (ai.cells ⟨fH,gU,gV,gd,fM,fQ,gv,hg,gF,gh⟩ W).toArray 28)=w0):=⟨_,aYe rfl⟩;rw [kv.out] at cV nY;have ku:Hid (aM w0 w.heap.size (ai.cells ⟨fH,gU,gV,gd,fM,fQ,gv,hg,gF,gh⟩ W) 28 (0,0)):=by rw [← kv.out];exact ku
 obtain ⟨dJ,jP⟩:∃ n,Hid (W.ao.length=n):=⟨_,aYe rfl⟩;obtain ⟨iJ,lC⟩:∃ n,Hid (W.bf.length=n):=⟨_,aYe rfl⟩;have gB:iJ≤8:=by rw [← lC.out];exact gB
 have y3:dJ≤100:=by rw [← jP.out];exact y3
 have yz:=aYe aG;have Et:=aYe bZ;obtain ⟨Bq,xD⟩:∃ Bq,wrap64 (W.next - 1)=Bq:=⟨_,rfl⟩;have aft:=aYe xD;have qG:Hid (w.alloc (.cells #[.int .i64 W.field.wide, .int .i64 W.field.high, .slice fH W.field.a_.length fQ, .slice gU iJ gv, .slice gV W.bE.length hg, .slice gd W.bX.length gF, .slice fM dJ gh, .int .i64 W.next, .int .i64 W.now] 28)=w0):=by rw [← kv.out,← lC.out,← jP.out];rfl
 obtain ⟨ck,c1,c2,c3,c4,c5,ek,eH,fx⟩:=ai.vl ku.out;rw [lC.out] at c3;rw [jP.out] at ek;clear bZ aG;have TV:=@run_makeMap prog;have TS:=ej.made (key:=az.key) w0;have aax:=mN w0 (.map #[] 0);obtain ⟨aqk,afD⟩:∃ aqk,Hid (w0.alloc (.map #[] 0)=aqk):=⟨_,aYe rfl⟩;rw [afD.out] at TS aax;have kF:w0.heap.size=w.heap.size+1:=by rw [← kv.out];simp
 rw [kF] at TS;have Xa:=aYe TS;have En:Hid (∀ j,j<0→W.zE j=true):=aYe λ j ay=>absurd ay (by omega);clear TS;go_enter func67,ntmps67;rw [lC.out,jP.out];go_wp2_with fail
 rw [qG.out,afD.out];have afo:Hid (bu.aK 8 w fH fQ W.field.a_):=aYe Et.out.P;have asc:Hid (bj.rep.aK 56 w fM gh W.ao):=aYe Et.out.T;have aRZ:=y3;have HV:=ku.out.later aax;have ajI:=cV.trans (aax.mono cV.size);clear ck c1 c2 c3 c4 c5 ek eH fx TV;obtain ⟨hC,Xb⟩:∃ hC,Hid (w.heap.size+1=hC):=⟨_,aYe rfl⟩;rw [Xb.out];rw [Xb.out] at Xa;go_loopw [3,6,7,8,9,14] (λ aFX _ _ _ _ ih wr=>∃ (k:Nat) (l:List (az×Int×Nat)) (mP:Nat),k≤dJ∧ih= .int .i64 (k:Int)∧aFX= .int .i64 (W.kV k)∧Hid (∀ j,j<k→W.zE j=true)∧Hid (ej az.key wr hC l mP)∧Hid (∀ e∈l,e.1.ok)∧Hid ((l.map (·.1)).Nodup)∧Hid (∀ c,ej.get l c=if (W.km k).contains c=true then some 1 else none)∧Hid (aM wr w.heap.size (ai.cells ⟨fH,gU,gV,gd,fM,fQ,gv,hg,gF,gh⟩ W) 28 (0,0))∧Below w.heap.size w wr) (λ _ _ _ _ _ ih _=>dJ - (intOf ih).toNat)
 case atStart=>exact ⟨0, [],0,aYX _,rfl,rfl,En,Xa,(λ e he=>by simp at he),bcA,(λ c=>by simp [ej.get,ai.km]),HV,ajI⟩
 case round =>
  clear En Xa HV ajI;obtain ⟨k,l,mP,ak,rfl,rfl,iQ,mi,Ro,Q9,El,JK,nJ⟩:=hrel;obtain ⟨ck,c1,c2,c3,c4,c5,ek,eH,fx⟩:=ai.vl JK.out;rw [lC.out] at c3;rw [jP.out] at ek;by_cases bF:k<dJ
  ·obtain ⟨t,aH⟩:=ic (l:=W.ao) (i:=k) (by rw [jP.out];exact bF);have ajp:=asc.out.keep nJ;obtain ⟨b,o,rfl,kD⟩:=bj.at_ ajp (by rw [jP.out];omega);obtain ⟨IU,nO,pB,nP,zH,aVw,aVx⟩:=kD k t aH;obtain ⟨j2,tE⟩:∃ j2,wrap64 (W.kV k+1)=j2:=⟨_,rfl⟩;have di:W.zE k=(W.PR j2 Bq t && !(W.km k).contains t.spot):=by
    unfold ai.zE;rw [aX7,aH,tE,aft.out];rfl
   unfold ai.PR at di;rw [lC.out] at di;have akJ:W.kV (k+1)=t.id:=by
    unfold ai.kV;rw [aYi (by omega),aX7,bbX,aH];rfl
   have alf:W.km (k+1)=W.km k++ [t.spot]:=by
    unfold ai.km;rw [aYH (by rw [jP.out];exact bF),aYA];have:W.ao[k]'(by rw [jP.out];exact bF)=t:=by
     rw [aYb (by rw [jP.out];exact bF)] at aH;exact aYd aH
    rw [this];rfl
   have afs:=aYe akJ;have afA:=aYe alf;have dc:=mN wr (.cells #[.int .i64 t.id, .int .i64 t.owner, .int .i64 t.kind, .int .i64 t.spot.x, .int .i64 t.spot.y, .int .i64 t.dW, .int .i64 t.load] 57);have ajk:=aM.new wr t.cells 57 (0,0);obtain ⟨w1,MW⟩:∃ w1,Hid (wr.alloc (.cells #[.int .i64 t.id, .int .i64 t.owner, .int .i64 t.kind, .int .i64 t.spot.x, .int .i64 t.spot.y, .int .i64 t.dW, .int .i64 t.load] 57)=w1):=⟨_,aYe rfl⟩;rw [MW.out] at dc;have Ek:Hid (aM w1 wr.heap.size t.cells 57 (0,0)):=by rw [← MW.out];exact ajk
   have aa6:hC<wr.heap.size:=mi.out.lt;have akA:w.heap.size<hC:=by have:=Xb.out;omega
   have q9:(k:Int)<(dJ:Int):=by omega
   have q7:(0:Int)≤(k:Int):=by omega
   clear ajp kD aH akJ alf ajk xD;have xD:=aft.out;by_cases q8:t.kind=1
   ·have Cd:=aYe q8;rw [q8] at pB;clear q8;have ML:=aYe (λ V:World=>amt V);have ON:ai.ni 1=10:=rfl;have OO:ai.Dv 1=5:=rfl;rw [Cd.out,ON,OO] at di;have mj:=aYe di;clear ON OO di;have Xi:Hid (wr.alloc (.cells #[.int .i64 t.id, .int .i64 t.owner, .int .i64 1, .int .i64 t.spot.x, .int .i64 t.spot.y, .int .i64 t.dW, .int .i64 t.load] 57)=w1):=by rw [← MW.out,Cd.out];rfl
    go_wp2_with fail
    rw [Xi.out];refine (ML.out _).mono ?_;rintro e cx ⟨rfl,bI⟩;have xB:=dc.trans (bI.mono dc.size);have er:=mN cx (.cells #[.int .i64 10, .int .i64 1, .int .i64 1, .int .i64 5] 61);have CV:=aM.new cx [.int .i64 10, .int .i64 1, .int .i64 1, .int .i64 5] 61 (0,0);obtain ⟨w3,G_⟩:∃ w3,Hid (cx.alloc (.cells #[.int .i64 10, .int .i64 1, .int .i64 1, .int .i64 5] 61)=w3):=⟨_,aYe rfl⟩;rw [G_.out] at er;have CV:aM w3 cx.heap.size [.int .i64 10, .int .i64 1, .int .i64 1, .int .i64 5] 61 (0,0):=by rw [← G_.out];exact CV
    have De:w3.cell? ⟨cx.heap.size,0,none⟩=some (.int .i64 10):=CV.cell 0;have tu:=xB.trans (er.mono xB.size);have G2:=aYe ((Ek.out.later bI).later er);have MM:=aYe (mi.out.later tu);have G1:=aYe (JK.out.later tu);have H8:=nJ.trans (tu.mono nJ.size);have MJ:=aYe (afo.out.keep H8);obtain ⟨t0,t1,t2,t3,t4,t5,t6⟩:=bj.fI ((Ek.out.later bI));rw [Cd.out] at t2;clear ck c1 c2 c3 c4 c5 ek eH fx;obtain ⟨ck,c1,c2,c3,c4,c5,ek,eH,fx⟩:=ai.vl (JK.out.later xB);rw [lC.out] at c3;rw [jP.out] at ek;have ajL:wr.heap.size<cx.heap.size:=by have:=bI.size;have:=Ek.out.lt;omega
    have ajM:w.heap.size<cx.heap.size:=by have:=aa6;omega
    go_wp2_with fail
    rw [G_.out];clear t0 t1 t2 t3 t4 t5 t6 ck c1 c2 c3 c4 c5 ek eH fx;obtain ⟨t0,t1,t2,t3,t4,t5,t6⟩:=bj.fI G2.out;obtain ⟨ck,c1,c2,c3,c4,c5,ek,eH,fx⟩:=ai.vl G1.out;rw [lC.out] at c3;rw [jP.out] at ek;rw [Cd.out] at t2;clear bI CV er xB;cases aG:b9 t.id j2 Bq with
    | false =>
     have cI:Hid (W.lQ=false):=ai.wy (k:=k) (by rw [jP.out];exact bF) (by rw [mj.out,aG];simp);have B6:=aYe aG;clear aG;refine (qu B6.out _).mono ?_;rintro e w' ⟨rfl,rfl⟩;go_wp2_with fail
     go_ret;exact ⟨iX cI.out.symm,H8⟩
    | true =>
     have B6:=aYe aG;clear aG;refine (qu B6.out _).mono ?_;rintro e w' ⟨rfl,rfl⟩;go_wp2_with fail
     cases κ:b9 t.owner 0 ((iJ:Int) - 1) with
     | false =>
      have cI:Hid (W.lQ=false):=ai.wy (k:=k) (by rw [jP.out];exact bF) (by rw [mj.out,κ];simp);have gJ:=aYe κ;clear κ;refine (qu gJ.out _).mono ?_;rintro e w' ⟨rfl,rfl⟩;go_wp2_with fail
      go_ret;exact ⟨iX cI.out.symm,H8⟩
     | true =>
      have gJ:=aYe κ;clear κ;refine (qu gJ.out _).mono ?_;rintro e w' ⟨rfl,rfl⟩;go_wp2_with fail
      cases τ:W.field.ground t.spot with
      | false =>
       have cI:Hid (W.lQ=false):=ai.wy (k:=k) (by rw [jP.out];exact bF) (by rw [mj.out,τ];simp);have yB:=aYe τ;clear τ;have mh:=Oa W.field t.spot fH fQ _ MJ.out yz.out;rw [yB.out] at mh;refine mh.mono ?_;rintro e wB ⟨rfl,eg⟩;have H4:=tu.trans (eg.mono tu.size);have y8:=nJ.trans (H4.mono nJ.size);have G3:=aYe (G2.out.later eg);have MN:=aYe (MM.out.later eg);have MH:=aYe (G1.out.later eg);clear t0 t1 t2 t3 t4 t5 t6 ck c1 c2 c3 c4 c5 ek eH fx mh;obtain ⟨t0,t1,t2,t3,t4,t5,t6⟩:=bj.fI G3.out;have De:=cell_later eg De;go_wp2_with fail
       go_ret;exact ⟨iX cI.out.symm,y8⟩
      | true =>
       have yB:=aYe τ;clear τ;have mh:=Oa W.field t.spot fH fQ _ MJ.out yz.out;rw [yB.out] at mh;refine mh.mono ?_;rintro e wB ⟨rfl,eg⟩;have H4:=tu.trans (eg.mono tu.size);have y8:=nJ.trans (H4.mono nJ.size);have G3:=aYe (G2.out.later eg);have MN:=aYe (MM.out.later eg);have MH:=aYe (G1.out.later eg);clear t0 t1 t2 t3 t4 t5 t6 ck c1 c2 c3 c4 c5 ek eH fx mh;obtain ⟨t0,t1,t2,t3,t4,t5,t6⟩:=bj.fI G3.out;have De:=cell_later eg De;go_wp2_with fail
       cases au:b9 t.dW 1 10 with
       | false =>
        have cI:Hid (W.lQ=false):=ai.wy (k:=k) (by rw [jP.out];exact bF) (by rw [mj.out,au];simp);have B7:=aYe au;clear au;refine (qu B7.out _).mono ?_;rintro e w' ⟨rfl,rfl⟩;go_wp2_with fail
        go_ret;exact ⟨iX cI.out.symm,y8⟩
       | true =>
        have B7:=aYe au;clear au;refine (qu B7.out _).mono ?_;rintro e w' ⟨rfl,rfl⟩;go_wp2_with fail
        cases aU:b9 t.load 0 5 with
        | false =>
         have cI:Hid (W.lQ=false):=ai.wy (k:=k) (by rw [jP.out];exact bF) (by rw [mj.out,aU];simp);have B8:=aYe aU;clear aU;refine (qu B8.out _).mono ?_;rintro e w' ⟨rfl,rfl⟩;go_wp2_with fail
         go_ret;exact ⟨iX cI.out.symm,y8⟩
        | true =>
         have B8:=aYe aU;clear aU;refine (qu B8.out _).mono ?_;rintro e w' ⟨rfl,rfl⟩;go_wp2_with fail
         have C9:t.spot.ok:=by
          obtain ⟨i1,i2,i3,i4,i5,i6⟩:=aL.idx yz.out (aL.lj yB.out);obtain ⟨g1,g2,g3,g4,_,_⟩:=aL.eB yz.out;exact ⟨b8.2 (by omega),b8.2 (by omega)⟩
         obtain ⟨v,Cg⟩:∃ v,Hid ((ej.get l t.spot).getD 0=v):=⟨_,aYe rfl⟩;obtain ⟨st,fo,dw,Ja,tZ,Eu⟩:=aiy MN.out Ro.out Q9.out t.spot C9 v Cg.out;obtain ⟨Fy,aW,Fz,f1,FA,Ih,O2,O3,C0⟩:=Eu;have aDI:0≤v∧v≤1:=by
          rw [← Cg.out,El.out];split<;>simp
         have W':=aYe Ih;have asw:=aYe O2;have Cc:=aYe O3;have KL:=(C0 (Nat.le_of_lt akA)).1 y8;have B3:=aYe (MH.out.of_heap ((C0 (B:=0) (a:=wB) (aYX _)).2 _ (by omega)));have F5:tZ.cell? ⟨wr.heap.size,0,none⟩=some (.int .i64 t.id):=(Cc.out _ (by simp;omega)).trans t0;have wx:tZ.cell? ⟨wr.heap.size,3,none⟩=some (.int .i64 t.spot.x):=(Cc.out _ (by simp;omega)).trans t3;have aIE:tZ.cell? ⟨wr.heap.size,4,none⟩=some (.int .i64 t.spot.y):=(Cc.out _ (by simp;omega)).trans t4;have g1:=Fy 1;have g2:=aW 1;have g3:=Fz 1;have g4:=f1 1;have g5:=FA 1;clear Ih O2 O3 C0 Fy aW Fz f1 FA;simp only [ahR] at g1 g2 g3 g4 g5;cases tv:(W.km k).contains t.spot with
         | true =>
          have qd:v=1:=by rw [← Cg.out,El.out,tv];rfl
          subst qd;rw [show (1:Int)+1=2 from rfl] at g4 g5;have cI:Hid (W.lQ=false):=ai.wy (k:=k) (by rw [jP.out];exact bF) (by rw [mj.out,tv];simp);clear tv
          go_region
          go_wp2_with fail
          go_ret;exact ⟨iX cI.out.symm,below_drewN KL 1⟩
         | false =>
          have qd:v=0:=by rw [← Cg.out,El.out,tv];rfl
          subst qd;rw [show (0:Int)+1=1 from rfl] at g4 g5;have qF:Hid (∀ j,j<k+1→W.zE j=true):=by
           intro j ay;by_cases hU:j<k
           ·exact iQ.out j hU
           ·obtain rfl:j=k:=by omega
            rw [mj.out,B6.out,gJ.out,yB.out,B7.out,B8.out,tv];rfl
          have W9:Hid (∀ c,ej.get (ej.put l mP t.spot (0+1)) c=if (W.km (k+1)).contains c=true then some 1 else none):=by
           intro c;rw [ej.CT,afA.out,El.out];by_cases H':c=t.spot
           ·simp [H']
           ·rw [aYi H'];simp [H']
          have Xk:Hid (∀ e∈ej.put l mP t.spot (0+1),e.1.ok):=ej.acg Ro.out C9;have W_:Hid (((ej.put l mP t.spot (0+1)).map (·.1)).Nodup):=ej.K7 Q9.out _ _ _;clear tv C9
          go_region
          go_wp2_with fail
          go_roundw
          case rel=>exact ⟨k+1,_,_,by omega,by go_num,by rw [afs.out],qF,W'.out.drewN 1,Xk,W_,W9,B3.out.drewN 1,below_drewN KL 1⟩
          case measure=>simp [intOf];omega
   ·by_cases gC:t.kind=2
    ·have Cd:=aYe gC;rw [gC] at pB;clear q8 gC;have ML:=aYe (λ V:World=>amu V);have ON:ai.ni 2=20:=rfl;have OO:ai.Dv 2=0:=rfl;rw [Cd.out,ON,OO] at di;have mj:=aYe di;clear ON OO di;have Xi:Hid (wr.alloc (.cells #[.int .i64 t.id, .int .i64 t.owner, .int .i64 2, .int .i64 t.spot.x, .int .i64 t.spot.y, .int .i64 t.dW, .int .i64 t.load] 57)=w1):=by rw [← MW.out,Cd.out];rfl
     go_wp2_with fail
     rw [Xi.out];refine (ML.out _).mono ?_;rintro e cx ⟨rfl,bI⟩;have xB:=dc.trans (bI.mono dc.size);have er:=mN cx (.cells #[.int .i64 20, .int .i64 2, .int .i64 4, .int .i64 12] 61);have CV:=aM.new cx [.int .i64 20, .int .i64 2, .int .i64 4, .int .i64 12] 61 (0,0);obtain ⟨w3,G_⟩:∃ w3,Hid (cx.alloc (.cells #[.int .i64 20, .int .i64 2, .int .i64 4, .int .i64 12] 61)=w3):=⟨_,aYe rfl⟩;rw [G_.out] at er;have CV:aM w3 cx.heap.size [.int .i64 20, .int .i64 2, .int .i64 4, .int .i64 12] 61 (0,0):=by rw [← G_.out];exact CV
     have De:w3.cell? ⟨cx.heap.size,0,none⟩=some (.int .i64 20):=CV.cell 0;have tu:=xB.trans (er.mono xB.size);have G2:=aYe ((Ek.out.later bI).later er);have MM:=aYe (mi.out.later tu);have G1:=aYe (JK.out.later tu);have H8:=nJ.trans (tu.mono nJ.size);have MJ:=aYe (afo.out.keep H8);obtain ⟨t0,t1,t2,t3,t4,t5,t6⟩:=bj.fI ((Ek.out.later bI));rw [Cd.out] at t2;clear ck c1 c2 c3 c4 c5 ek eH fx;obtain ⟨ck,c1,c2,c3,c4,c5,ek,eH,fx⟩:=ai.vl (JK.out.later xB);rw [lC.out] at c3;rw [jP.out] at ek;have ajL:wr.heap.size<cx.heap.size:=by have:=bI.size;have:=Ek.out.lt;omega
     have ajM:w.heap.size<cx.heap.size:=by have:=aa6;omega
     go_wp2_with fail
     rw [G_.out];clear t0 t1 t2 t3 t4 t5 t6 ck c1 c2 c3 c4 c5 ek eH fx;obtain ⟨t0,t1,t2,t3,t4,t5,t6⟩:=bj.fI G2.out;obtain ⟨ck,c1,c2,c3,c4,c5,ek,eH,fx⟩:=ai.vl G1.out;rw [lC.out] at c3;rw [jP.out] at ek;rw [Cd.out] at t2;clear bI CV er xB;cases aG:b9 t.id j2 Bq with
     | false =>
      have cI:Hid (W.lQ=false):=ai.wy (k:=k) (by rw [jP.out];exact bF) (by rw [mj.out,aG];simp);have B6:=aYe aG;clear aG;refine (qu B6.out _).mono ?_;rintro e w' ⟨rfl,rfl⟩;go_wp2_with fail
      go_ret;exact ⟨iX cI.out.symm,H8⟩
     | true =>
      have B6:=aYe aG;clear aG;refine (qu B6.out _).mono ?_;rintro e w' ⟨rfl,rfl⟩;go_wp2_with fail
      cases κ:b9 t.owner 0 ((iJ:Int) - 1) with
      | false =>
       have cI:Hid (W.lQ=false):=ai.wy (k:=k) (by rw [jP.out];exact bF) (by rw [mj.out,κ];simp);have gJ:=aYe κ;clear κ;refine (qu gJ.out _).mono ?_;rintro e w' ⟨rfl,rfl⟩;go_wp2_with fail
       go_ret;exact ⟨iX cI.out.symm,H8⟩
      | true =>
       have gJ:=aYe κ;clear κ;refine (qu gJ.out _).mono ?_;rintro e w' ⟨rfl,rfl⟩;go_wp2_with fail
       cases τ:W.field.ground t.spot with
       | false =>
        have cI:Hid (W.lQ=false):=ai.wy (k:=k) (by rw [jP.out];exact bF) (by rw [mj.out,τ];simp);have yB:=aYe τ;clear τ;have mh:=Oa W.field t.spot fH fQ _ MJ.out yz.out;rw [yB.out] at mh;refine mh.mono ?_;rintro e wB ⟨rfl,eg⟩;have H4:=tu.trans (eg.mono tu.size);have y8:=nJ.trans (H4.mono nJ.size);have G3:=aYe (G2.out.later eg);have MN:=aYe (MM.out.later eg);have MH:=aYe (G1.out.later eg);clear t0 t1 t2 t3 t4 t5 t6 ck c1 c2 c3 c4 c5 ek eH fx mh;obtain ⟨t0,t1,t2,t3,t4,t5,t6⟩:=bj.fI G3.out;have De:=cell_later eg De;go_wp2_with fail
        go_ret;exact ⟨iX cI.out.symm,y8⟩
       | true =>
        have yB:=aYe τ;clear τ;have mh:=Oa W.field t.spot fH fQ _ MJ.out yz.out;rw [yB.out] at mh;refine mh.mono ?_;rintro e wB ⟨rfl,eg⟩;have H4:=tu.trans (eg.mono tu.size);have y8:=nJ.trans (H4.mono nJ.size);have G3:=aYe (G2.out.later eg);have MN:=aYe (MM.out.later eg);have MH:=aYe (G1.out.later eg);clear t0 t1 t2 t3 t4 t5 t6 ck c1 c2 c3 c4 c5 ek eH fx mh;obtain ⟨t0,t1,t2,t3,t4,t5,t6⟩:=bj.fI G3.out;have De:=cell_later eg De;go_wp2_with fail
        cases au:b9 t.dW 1 20 with
        | false =>
         have cI:Hid (W.lQ=false):=ai.wy (k:=k) (by rw [jP.out];exact bF) (by rw [mj.out,au];simp);have B7:=aYe au;clear au;refine (qu B7.out _).mono ?_;rintro e w' ⟨rfl,rfl⟩;go_wp2_with fail
         go_ret;exact ⟨iX cI.out.symm,y8⟩
        | true =>
         have B7:=aYe au;clear au;refine (qu B7.out _).mono ?_;rintro e w' ⟨rfl,rfl⟩;go_wp2_with fail
         cases aU:b9 t.load 0 0 with
         | false =>
          have cI:Hid (W.lQ=false):=ai.wy (k:=k) (by rw [jP.out];exact bF) (by rw [mj.out,aU];simp);have B8:=aYe aU;clear aU;refine (qu B8.out _).mono ?_;rintro e w' ⟨rfl,rfl⟩;go_wp2_with fail
          go_ret;exact ⟨iX cI.out.symm,y8⟩
         | true =>
          have B8:=aYe aU;clear aU;refine (qu B8.out _).mono ?_;rintro e w' ⟨rfl,rfl⟩;go_wp2_with fail
          have C9:t.spot.ok:=by
           obtain ⟨i1,i2,i3,i4,i5,i6⟩:=aL.idx yz.out (aL.lj yB.out);obtain ⟨g1,g2,g3,g4,_,_⟩:=aL.eB yz.out;exact ⟨b8.2 (by omega),b8.2 (by omega)⟩
          obtain ⟨v,Cg⟩:∃ v,Hid ((ej.get l t.spot).getD 0=v):=⟨_,aYe rfl⟩;obtain ⟨st,fo,dw,Ja,tZ,Eu⟩:=aiy MN.out Ro.out Q9.out t.spot C9 v Cg.out;obtain ⟨Fy,aW,Fz,f1,FA,Ih,O2,O3,C0⟩:=Eu;have aDI:0≤v∧v≤1:=by
           rw [← Cg.out,El.out];split<;>simp
          have W':=aYe Ih;have asw:=aYe O2;have Cc:=aYe O3;have KL:=(C0 (Nat.le_of_lt akA)).1 y8;have B3:=aYe (MH.out.of_heap ((C0 (B:=0) (a:=wB) (aYX _)).2 _ (by omega)));have F5:tZ.cell? ⟨wr.heap.size,0,none⟩=some (.int .i64 t.id):=(Cc.out _ (by simp;omega)).trans t0;have wx:tZ.cell? ⟨wr.heap.size,3,none⟩=some (.int .i64 t.spot.x):=(Cc.out _ (by simp;omega)).trans t3;have aIE:tZ.cell? ⟨wr.heap.size,4,none⟩=some (.int .i64 t.spot.y):=(Cc.out _ (by simp;omega)).trans t4;have g1:=Fy 1;have g2:=aW 1;have g3:=Fz 1;have g4:=f1 1;have g5:=FA 1;clear Ih O2 O3 C0 Fy aW Fz f1 FA;simp only [ahR] at g1 g2 g3 g4 g5;cases tv:(W.km k).contains t.spot with
          | true =>
           have qd:v=1:=by rw [← Cg.out,El.out,tv];rfl
           subst qd;rw [show (1:Int)+1=2 from rfl] at g4 g5;have cI:Hid (W.lQ=false):=ai.wy (k:=k) (by rw [jP.out];exact bF) (by rw [mj.out,tv];simp);clear tv
           go_region
           go_wp2_with fail
           go_ret;exact ⟨iX cI.out.symm,below_drewN KL 1⟩
          | false =>
           have qd:v=0:=by rw [← Cg.out,El.out,tv];rfl
           subst qd;rw [show (0:Int)+1=1 from rfl] at g4 g5;have qF:Hid (∀ j,j<k+1→W.zE j=true):=by
            intro j ay;by_cases hU:j<k
            ·exact iQ.out j hU
            ·obtain rfl:j=k:=by omega
             rw [mj.out,B6.out,gJ.out,yB.out,B7.out,B8.out,tv];rfl
           have W9:Hid (∀ c,ej.get (ej.put l mP t.spot (0+1)) c=if (W.km (k+1)).contains c=true then some 1 else none):=by
            intro c;rw [ej.CT,afA.out,El.out];by_cases H':c=t.spot
            ·simp [H']
            ·rw [aYi H'];simp [H']
           have Xk:Hid (∀ e∈ej.put l mP t.spot (0+1),e.1.ok):=ej.acg Ro.out C9;have W_:Hid (((ej.put l mP t.spot (0+1)).map (·.1)).Nodup):=ej.K7 Q9.out _ _ _;clear tv C9
           go_region
           go_wp2_with fail
           go_roundw
           case rel=>exact ⟨k+1,_,_,by omega,by go_num,by rw [afs.out],qF,W'.out.drewN 1,Xk,W_,W9,B3.out.drewN 1,below_drewN KL 1⟩
           case measure=>simp [intOf];omega
    ·have aaZ:b9 t.kind 1 2=false:=ri (by omega);have cI:Hid (W.lQ=false):=ai.wy (k:=k) (by rw [jP.out];exact bF) (by rw [di,aaZ];rfl);have ML:=aYe (λ V:World=>amv t.kind V aaZ);have aj0:(t.kind == 1)=false:=by simpa using q8
     clear di aaZ q8 gC;go_wp2_with fail
     rw [MW.out];refine (ML.out _).mono ?_;rintro e cx ⟨rfl,bI⟩;have xB:=dc.trans (bI.mono dc.size);obtain ⟨t0,t1,t2,t3,t4,t5,t6⟩:=bj.fI ((Ek.out.later bI));clear ck c1 c2 c3 c4 c5 ek eH fx;obtain ⟨ck,c1,c2,c3,c4,c5,ek,eH,fx⟩:=ai.vl (JK.out.later xB);have ajL:wr.heap.size<cx.heap.size:=by have:=bI.size;have:=Ek.out.lt;omega
     have ajM:w.heap.size<cx.heap.size:=by have:=aa6;omega
     go_wp2_with fail
     go_ret;exact ⟨iX cI.out.symm,(nJ.trans (xB.mono nJ.size)).trans ((mN _ _).mono (by omega))⟩
  ·obtain rfl:k=dJ:=by omega
   have dM:∀ j,j<W.ao.length→W.zE j=true:=λ j ay=>iQ.out j (by rw [jP.out] at ay;exact ay);have rf:W.lQ=(b9 W.next 1 1000000 && b9 W.now 0 1000000):=by
    unfold ai.lQ;rw [aYW.2 (λ j ay=>dM j (aY0.1 ay)),bbj]
   have Ce:=aYe rf;clear dM rf xD;cases κ:b9 W.next 1 1000000 with
   | false =>
    have H1:=aYe κ;clear κ;go_wp2_with fail
    refine (qu H1.out _).mono ?_;rintro e w' ⟨rfl,rfl⟩;go_wp2_with fail
    go_ret;exact ⟨iX (by rw [Ce.out,H1.out];rfl),nJ⟩
   | true =>
    have C3:=λ V=>V' W.now 0 1000000 V;have H1:=aYe κ;rw [H1.out,bbj] at Ce;clear κ;generalize b9 W.now 0 1000000=r2 at *
    go_wp2_with fail
    refine (qu H1.out _).mono ?_;rintro e w' ⟨rfl,rfl⟩;go_wp2_with fail
    refine (C3 _).mono ?_;rintro e w' ⟨rfl,rfl⟩;go_wp2_with fail
    go_ret;exact ⟨iX Ce.out.symm,nJ⟩
end
theorem EU (a:ai.b7) (W:ai) (w:World) (bZ:ai.Has w a W):
  Calls prog 34 #[.agg (ai.cells a W).toArray] w λ e w'=>e= .returned (.int .i64 W.a7)∧Below w.heap.size w w':=by
 have pg:=λ aG gB V (h:ai.Has V a W)=>aHO a W V h aG gB;have TT:=λ V (h:ai.Has V a W)=>aGm a W V h;have rf:=λ aG gB y3 V (h:ai.Has V a W)=>aKl a W V h aG gB y3;obtain ⟨fH,gU,gV,gd,fM,fQ,gv,hg,gF,gh⟩:=a;show Calls _ _ #[.agg #[.int .i64 W.field.wide, .int .i64 W.field.high, .slice fH W.field.a_.length fQ, .slice gU W.bf.length gv, .slice gV W.bE.length hg, .slice gd W.bX.length gF, .slice fM W.ao.length gh, .int .i64 W.next, .int .i64 W.now]] _ _;have cV:=mN w (.cells (ai.cells ⟨fH,gU,gV,gd,fM,fQ,gv,hg,gF,gh⟩ W).toArray 28);have ku:=aYe (aM.new w (ai.cells ⟨fH,gU,gV,gd,fM,fQ,gv,hg,gF,gh⟩ W) 28 (0,0));have nY:=aYe (bZ.keep cV);obtain ⟨w0,kv⟩:∃ w0,Hid (w.alloc (.cells (ai.cells ⟨fH,gU,gV,gd,fM,fQ,gv,hg,gF,gh⟩ W).toArray 28)=w0):=⟨_,aYe rfl⟩;rw [kv.out] at cV nY;have ku:Hid (aM w0 w.heap.size (ai.cells ⟨fH,gU,gV,gd,fM,fQ,gv,hg,gF,gh⟩ W) 28 (0,0)):=by rw [← kv.out];exact ku
 have hf:=aiO W.field fH fQ w0 nY.out.P;have qG:Hid (w.alloc (.cells #[.int .i64 W.field.wide, .int .i64 W.field.high, .slice fH W.field.a_.length fQ, .slice gU W.bf.length gv, .slice gV W.bE.length hg, .slice gd W.bX.length gF, .slice fM W.ao.length gh, .int .i64 W.next, .int .i64 W.now] 28)=w0):=by rw [← kv.out];rfl
 obtain ⟨ck,c1,c2,c3,c4,c5,ek,eH,fx⟩:=ai.vl ku.out;clear bZ;by_cases xC:W.field.a7=0
 ·by_cases rb:8<W.bf.length∨100<W.ao.length
  ·rw [ai.Sm xC rb];rw [xC] at hf;have asf:=aYe rb;clear rb xC pg TT rf;generalize W.field.a_.length=PN at *
   generalize W.bf.length=iJ at *
   generalize W.bE.length=ns at *
   generalize W.bX.length=nm at *
   generalize W.ao.length=dJ at *
   go_enter func34,ntmps34;go_wp2_with fail
   rw [qG.out];refine hf.mono ?_;rintro e cx ⟨rfl,bI⟩;have d3:=cell_later bI c3;have d6:=cell_later bI ek;have key:decide ((8:Int)<(iJ:Int))=true∨(decide ((8:Int)<(iJ:Int))=false∧decide ((100:Int)<(dJ:Int))=true):=by
    have:=asf.out;simp;omega
   clear ck c1 c2 c3 c4 c5 ek eH fx;rcases key with h | ⟨h,τ⟩
   all_goals
    go_wp2_with fail
    go_ret;exact ⟨Z,cV.trans (bI.mono cV.size)⟩
  ·rw [ai.Yq xC rb];have gB:W.bf.length≤8:=by omega
   have y3:W.ao.length≤100:=by omega
   have pg:=pg xC gB;have rf:=rf xC gB y3;rw [xC] at hf;have g1:decide ((8:Int)<(W.bf.length:Int))=false:=by simp;omega
   have g2:decide ((100:Int)<(W.ao.length:Int))=false:=by simp;omega
   have G8:=aYe (λ V (h:Below w0.heap.size w0 V)=>pg V (nY.out.keep h));have JN:=aYe (λ V (h:Below w0.heap.size w0 V)=>TT V (nY.out.keep h));have Ce:=aYe (λ V (h:Below w0.heap.size w0 V)=>rf V (nY.out.keep h));rw [ai.awa] at G8 JN Ce;have G8:Hid (∀ V,Below w0.heap.size w0 V→Calls prog 65 #[.agg #[.int .i64 W.field.wide, .int .i64 W.field.high, .slice fH W.field.a_.length fQ, .slice gU W.bf.length gv, .slice gV W.bE.length hg, .slice gd W.bX.length gF, .slice fM W.ao.length gh, .int .i64 W.next, .int .i64 W.now]] V λ e w'=>e= .returned (.bool W.pE)∧Below V.heap.size V w'):=G8;have JN:Hid (∀ V,Below w0.heap.size w0 V→Calls prog 66 #[.agg #[.int .i64 W.field.wide, .int .i64 W.field.high, .slice fH W.field.a_.length fQ, .slice gU W.bf.length gv, .slice gV W.bE.length hg, .slice gd W.bX.length gF, .slice fM W.ao.length gh, .int .i64 W.next, .int .i64 W.now]] V λ e w'=>e= .returned (.bool W.ql)∧Below V.heap.size V w'):=JN;have Ce:Hid (∀ V,Below w0.heap.size w0 V→Calls prog 67 #[.agg #[.int .i64 W.field.wide, .int .i64 W.field.high, .slice fH W.field.a_.length fQ, .slice gU W.bf.length gv, .slice gV W.bE.length hg, .slice gd W.bX.length gF, .slice fM W.ao.length gh, .int .i64 W.next, .int .i64 W.now]] V λ e w'=>e= .returned (.bool W.lQ)∧Below V.heap.size V w'):=Ce;clear rb xC pg TT rf gB y3;generalize W.pE=r1 at *
   generalize W.ql=r2 at *
   generalize W.lQ=wx at *
   generalize W.field.a_.length=PN at *
   generalize W.bf.length=iJ at *
   generalize W.bE.length=ns at *
   generalize W.bX.length=nm at *
   generalize W.ao.length=dJ at *
   have wv:=hf;clear hf;cases r1 with
   | false =>
    go_enter func34,ntmps34;go_wp2_with fail
    rw [qG.out];refine wv.mono ?_;rintro e cx ⟨rfl,bI⟩;have ck:=cell_later bI ck;have c1:=cell_later bI c1;have c2:=cell_later bI c2;have c3:=cell_later bI c3;have c4:=cell_later bI c4;have c5:=cell_later bI c5;have ek:=cell_later bI ek;have eH:=cell_later bI eH;have fx:=cell_later bI fx;go_wp2_with fail
    refine (G8.out _ bI).mono ?_;rintro e w3 ⟨rfl,er⟩;go_wp2_with fail
    go_ret;exact ⟨Z,cV.trans ((o_ bI er).mono cV.size)⟩
   | true =>
    cases r2 with
    | false =>
     go_enter func34,ntmps34;go_wp2_with fail
     rw [qG.out];refine wv.mono ?_;rintro e cx ⟨rfl,bI⟩;have ck:=cell_later bI ck;have c1:=cell_later bI c1;have c2:=cell_later bI c2;have c3:=cell_later bI c3;have c4:=cell_later bI c4;have c5:=cell_later bI c5;have ek:=cell_later bI ek;have eH:=cell_later bI eH;have fx:=cell_later bI fx;go_wp2_with fail
     refine (G8.out _ bI).mono ?_;rintro e w3 ⟨rfl,er⟩;have sb:=o_ bI er;have ck:=cell_later er ck;have c1:=cell_later er c1;have c2:=cell_later er c2;have c3:=cell_later er c3;have c4:=cell_later er c4;have c5:=cell_later er c5;have ek:=cell_later er ek;have eH:=cell_later er eH;have fx:=cell_later er fx;go_wp2_with fail
     refine (JN.out _ sb).mono ?_;rintro e wB ⟨rfl,eg⟩;go_wp2_with fail
     go_ret;exact ⟨Z,cV.trans ((o_ sb eg).mono cV.size)⟩
    | true =>
     cases wx with
     | false =>
      go_enter func34,ntmps34;go_wp2_with fail
      rw [qG.out];refine wv.mono ?_;rintro e cx ⟨rfl,bI⟩;have ck:=cell_later bI ck;have c1:=cell_later bI c1;have c2:=cell_later bI c2;have c3:=cell_later bI c3;have c4:=cell_later bI c4;have c5:=cell_later bI c5;have ek:=cell_later bI ek;have eH:=cell_later bI eH;have fx:=cell_later bI fx;go_wp2_with fail
      refine (G8.out _ bI).mono ?_;rintro e w3 ⟨rfl,er⟩;have sb:=o_ bI er;have ck:=cell_later er ck;have c1:=cell_later er c1;have c2:=cell_later er c2;have c3:=cell_later er c3;have c4:=cell_later er c4;have c5:=cell_later er c5;have ek:=cell_later er ek;have eH:=cell_later er eH;have fx:=cell_later er fx;go_wp2_with fail
      refine (JN.out _ sb).mono ?_;rintro e wB ⟨rfl,eg⟩;have uQ:=o_ sb eg;have ck:=cell_later eg ck;have c1:=cell_later eg c1;have c2:=cell_later eg c2;have c3:=cell_later eg c3;have c4:=cell_later eg c4;have c5:=cell_later eg c5;have ek:=cell_later eg ek;have eH:=cell_later eg eH;have fx:=cell_later eg fx;go_wp2_with fail
      refine (Ce.out _ uQ).mono ?_;rintro e sC ⟨rfl,pd⟩;go_wp2_with fail
      go_ret;exact ⟨Z,cV.trans ((o_ uQ pd).mono cV.size)⟩
     | true =>
      go_enter func34,ntmps34;go_wp2_with fail
      rw [qG.out];refine wv.mono ?_;rintro e cx ⟨rfl,bI⟩;have ck:=cell_later bI ck;have c1:=cell_later bI c1;have c2:=cell_later bI c2;have c3:=cell_later bI c3;have c4:=cell_later bI c4;have c5:=cell_later bI c5;have ek:=cell_later bI ek;have eH:=cell_later bI eH;have fx:=cell_later bI fx;go_wp2_with fail
      refine (G8.out _ bI).mono ?_;rintro e w3 ⟨rfl,er⟩;have sb:=o_ bI er;have ck:=cell_later er ck;have c1:=cell_later er c1;have c2:=cell_later er c2;have c3:=cell_later er c3;have c4:=cell_later er c4;have c5:=cell_later er c5;have ek:=cell_later er ek;have eH:=cell_later er eH;have fx:=cell_later er fx;go_wp2_with fail
      refine (JN.out _ sb).mono ?_;rintro e wB ⟨rfl,eg⟩;have uQ:=o_ sb eg;have ck:=cell_later eg ck;have c1:=cell_later eg c1;have c2:=cell_later eg c2;have c3:=cell_later eg c3;have c4:=cell_later eg c4;have c5:=cell_later eg c5;have ek:=cell_later eg ek;have eH:=cell_later eg eH;have fx:=cell_later eg fx;go_wp2_with fail
      refine (Ce.out _ uQ).mono ?_;rintro e sC ⟨rfl,pd⟩;go_wp2_with fail
      go_ret;exact ⟨Z,cV.trans ((o_ uQ pd).mono cV.size)⟩
 ·rw [ai.agO xC];have hd:(W.field.a7 == 0)=false:=by simpa using xC
  have KQ:(W.field.a7 != 0)=true:=by simpa using xC
  clear xC pg TT rf;generalize W.field.a7=k at *
  go_enter func34,ntmps34;go_wp2_with fail
  rw [qG.out];refine hf.mono ?_;rintro e cx ⟨rfl,bI⟩;go_wp2_with fail
  go_ret;exact ⟨Z,cV.trans (bI.mono cV.size)⟩
section
variable {l:List fc} {k:Nat} {v:Int} {b:fc}
theorem asE:(prog.info? 4).map (λ i=>(i.zero,i.size,i.bytes))=some (some (.bool false),1,1):=by kernel_rfl
def Sr (f:aL) (x y:bj):Bool:=if (x.owner == y.owner || decide (ac4 x.kind<aZ x.spot y.spot))=true then false else P7 f x.spot y.spot
def eE (l:List bj):List (Int×Int):=(List.range l.length).map λ i=>((l.getD i default).id,(i:Int))
theorem aD0 {l:List bj} (h:k<l.length):eE (l.take (k+1))=eE (l.take k)++ [((l.getD k default).id,(k:Int))]:=by
 have aW:(l.take (k+1)).length=k+1:=by rw [aYa];omega
 have bb:(l.take k).length=k:=by rw [aYa];omega
 unfold eE;rw [aW,bb,aZY,aYA];congr 1
 ·refine bdd λ i hi=> ?_;have hi:=aY0.1 hi;simp only [aX7,aYO];rw [aYq (by omega),aYq hi]
 ·simp only [aY3,bac,aX7,aYO];rw [aYq (by omega)]
theorem alq {l:List bj} {p:Int×Int} (h:p∈eE l):∃ i,i<l.length∧p=((l.getD i default).id,(i:Int)):=by
 obtain ⟨i,hi,rfl⟩:=aYU.1 h;exact ⟨i,aY0.1 hi,Z⟩
theorem aAi {l:List (Int×Int)} {k:Int} (h:dv l k=some v):(k,v)∈l:=by
 unfold dv at h;cases hf:l.find? (λ p=>p.1 == k) with
 | none=>rw [hf] at h;exact nomatch h
 | some p =>
  rw [hf] at h;injection h with h
  have κ:=bbb hf;have τ:=bbw hf;have au:p.1=k:=by simpa using τ
  rw [← au,← h];exact κ
theorem aAj {l:List (Int×Int)} {k:Int} (h:∀ p∈l,p.1≠k):dv l k=none:=by
 unfold dv;rw [aZH.2 λ p hp=>by simpa using h p hp];rfl
theorem an2 {W:ai} {x:Int} (h:dv (eE W.ao) x=some v):∃ i,i<W.ao.length∧v=(i:Int)∧(W.ao.getD i default).id=x:=by
 obtain ⟨i,hi,he⟩:=alq (aAi h);injection he with κ τ
 exact ⟨i,hi,τ,κ.symm⟩
theorem aHJ {W:ai} (bP:Good W) (x:Int) (h:(dv (eE W.ao) x).isSome=true):((dv (eE W.ao) x).getD 0).toNat<W.ao.length∧0≤(dv (eE W.ao) x).getD 0:=by
 cases aN:dv (eE W.ao) x with
 | none=>rw [aN] at h;exact nomatch h
 | some v =>
  obtain ⟨i,hi,hv,_⟩:=an2 aN;show v.toNat<_∧0≤v;omega
theorem aHL (W:ai) (x:Int):0≤(dv (eE W.ao) x).getD 0:=by
 cases aN:dv (eE W.ao) x with
 | none=>exact aZl _
 | some v=>obtain ⟨i,hi,hv,_⟩:=an2 aN;show 0≤v;omega
theorem Good.aD1 {W:ai} (bP:Good W) {i j:Nat} (jF:i<j) (ay:j<W.ao.length):(W.ao.getD i default).id<(W.ao.getD j default).id:=by
 induction j with
 | zero=>omega
 | succ j bL =>
  obtain ⟨t,aH⟩:=ic ay;have κ:=(bP.ids (j+1) t aH).1;have τ:W.kV (j+1)=(W.ao.getD j default).id:=by
   unfold ai.kV;simp
  have aW:W.ao.getD (j+1) default=t:=by rw [aX7,aH];rfl
  rw [aW];rcases bbh.1 jF with h | rfl
  ·have:=bL h (by omega);omega
  ·omega
theorem aHK {W:ai} (bP:Good W) (ak:k<W.ao.length):dv (eE (W.ao.take k)) (W.ao.getD k default).id=none:=by
 refine aAj λ p hp=> ?_;obtain ⟨i,hi,rfl⟩:=alq hp;rw [aYa] at hi;have κ:=bP.aD1 (i:=i) (j:=k) (by omega) ak;have τ:(W.ao.take k).getD i default=W.ao.getD i default:=by
  simp only [aX7,aYO];rw [aYq (by omega)]
 show ((W.ao.take k).getD i default).id≠_;rw [τ];omega
theorem Good.aGD {W:ai} (bP:Good W) (i:Nat): -1000≤(W.ao.getD i default).spot.x∧(W.ao.getD i default).spot.x≤1000∧ -1000≤(W.ao.getD i default).spot.y∧(W.ao.getD i default).spot.y≤1000:=by
 rw [aX7];cases aH:W.ao[i]? with
 | none=>exact ⟨by decide,by decide,by decide,by decide⟩
 | some t =>
  obtain ⟨i1,i2,i3,i4,i5,i6⟩:=aL.idx bP.field (aL.lj (bP.ao i t aH).ground);obtain ⟨uk,QG,Wq,Wr,_,_⟩:=aL.eB bP.field;show -1000≤t.spot.x∧t.spot.x≤1000∧ -1000≤t.spot.y∧t.spot.y≤1000;omega
def Sa (W:ai) (s:List Bool×List Int) (b:fc):Bool :=
 (((!(dv (eE W.ao) b.bd).isSome || !(dv (eE W.ao) b.l_).isSome) || s.1.getD ((dv (eE W.ao) b.bd).getD 0).toNat false) || !Sr W.field (W.ao.getD ((dv (eE W.ao) b.bd).getD 0).toNat default) (W.ao.getD ((dv (eE W.ao) b.l_).getD 0).toNat default))
def Cr (W:ai) (s:List Bool×List Int) (b:fc):List Bool×List Int :=
 if Sa W s b=true then s
 else (s.1.set ((dv (eE W.ao) b.bd).getD 0).toNat true,s.2.set ((dv (eE W.ao) b.l_).getD 0).toNat (s.2.getD ((dv (eE W.ao) b.l_).getD 0).toNat 0+A8 (W.ao.getD ((dv (eE W.ao) b.bd).getD 0).toNat default).kind))
theorem agw {W:ai} {s:List Bool×List Int} (h:Sa W s b=false):Cr W s b=(s.1.set ((dv (eE W.ao) b.bd).getD 0).toNat true,s.2.set ((dv (eE W.ao) b.l_).getD 0).toNat (s.2.getD ((dv (eE W.ao) b.l_).getD 0).toNat 0+A8 (W.ao.getD ((dv (eE W.ao) b.bd).getD 0).toNat default).kind)):=by
 unfold Cr;rw [h];rfl
theorem agu {W:ai} {s:List Bool×List Int} (h:Sa W s b=true):Cr W s b=s:=by unfold Cr;rw [h];rfl
def lZ (W:ai) (l:List fc):List Bool×List Int:=l.foldl (Cr W) (List.replicate W.ao.length false,List.replicate W.ao.length 0)
theorem au3 (W:ai) (l:List fc) (b:fc):lZ W (l++ [b])=Cr W (lZ W l) b:=by unfold lZ;rw [aZU];rfl
theorem agx (W:ai) (h:k<l.length):lZ W (l.take (k+1))=Cr W (lZ W (l.take k)) (l.getD k default):=by
 rw [aYH h,au3,aX7,aYb h];rfl
theorem ajG (k:Int):0≤A8 k∧A8 k≤4:=by unfold A8;split<;>(try split)<;>omega
def MA (n m:Nat) (s:List Bool×List Int):Prop:=s.1.length=n∧s.2.length=n∧∀ j,0≤s.2.getD j 0∧s.2.getD j 0≤4 * m
theorem au0 (W:ai) {n m:Nat} {s:List Bool×List Int} (b:fc) (h:MA n m s):MA n (m+1) (Cr W s b):=by
 obtain ⟨κ,τ,au⟩:=h;cases ag:Sa W s b with
 | true=>rw [agu ag];exact ⟨κ,τ,λ j=>by have:=au j;omega⟩
 | false =>
  rw [agw ag];refine ⟨by rw [aYn];exact κ,by rw [aYn];exact τ,λ j=> ?_⟩;have ay:=au j;have hx:=ajG (W.ao.getD ((dv (eE W.ao) b.bd).getD 0).toNat default).kind;have hm:=au ((dv (eE W.ao) b.l_).getD 0).toNat;show 0≤(s.2.set _ _).getD j 0∧(s.2.set _ _).getD j 0≤_;generalize ((dv (eE W.ao) b.l_).getD 0).toNat=i at *
  generalize A8 _=q at *
  rw [aX7] at ay;rw [aX7,bds];split
  ·split
   ·rw [aZm];omega
   ·rw [Option.getD_none];omega
  ·omega
theorem agt (W:ai) {n:Nat}:∀ (l:List fc) {m:Nat} {s:List Bool×List Int},MA n m s→MA n (m+l.length) (l.foldl (Cr W) s)
 | [],m,s,h=>h
 | b::l,m,s,h=>by
  have:=agt W l (au0 W b h);rw [ba0,bca 1] at this;exact this
theorem Ya (W:ai) (l:List fc):(lZ W l).1.length=W.ao.length∧(lZ W l).2.length=W.ao.length∧∀ j,0≤(lZ W l).2.getD j 0∧(lZ W l).2.getD j 0≤4 * l.length:=by
 have aG:MA W.ao.length 0 (List.replicate W.ao.length false,List.replicate W.ao.length 0):=by
  refine ⟨aYQ,aYQ,λ j=> ?_⟩;have:(List.replicate W.ao.length (0:Int)).getD j 0=0:=by
   rw [aX7,aZn];split<;>rfl
  show 0≤(List.replicate W.ao.length (0:Int)).getD j 0∧(List.replicate W.ao.length (0:Int)).getD j 0≤_;rw [this];decide
 obtain ⟨κ,τ,au⟩:=agt W l aG;refine ⟨κ,τ,λ j=> ?_⟩;have:=au j;rw [aY4] at this;exact this
def nF (W:ai) (l:List fc):Int:=if W.a7≠0 then W.a7 else if 200<l.length then 2 else 0
def gR (W:ai) (l:List fc):List Int:=if nF W l≠0 then [] else (lZ W l).2
theorem agv {W:ai} {w w1:World} (h:nF W l=v) (hv:v≠0) (x:Ext w w1):∃ A c,(Ending.returned (.tuple #[.slice none 0 0,Φ v])= .returned (.tuple #[.slice A (gR W l).length c,Φ (nF W l)]))∧bu.aF 3 8 w1 w.heap.size (J.ab A) A c (gR W l)∧Ext w w1:=by
 have e:gR W l= []:=by unfold gR;rw [h,aYq hv]
 rw [e,h];exact ⟨none,0,Z,J.aF.nil _,x⟩
theorem au1 {W:ai} (h:W.a7=0) (τ:¬ (200:Int)<l.length):nF W l=0∧gR W l=(lZ W l).2:=by
 have e:nF W l=0:=by unfold nF;rw [aYi (by simpa using h),aYi (by omega)]
 exact ⟨e,by unfold gR;rw [e];rfl⟩
theorem awB (a:ai.b7) (W:ai) (x y:bj) (w:World) (bZ:ai.Has w a W) (h: -1000≤x.spot.x∧x.spot.x≤1000∧ -1000≤x.spot.y∧x.spot.y≤1000) (τ: -1000≤y.spot.x∧y.spot.x≤1000∧ -1000≤y.spot.y∧y.spot.y≤1000):
  Calls prog 101 #[.agg ((ai.cells a W).toArray), .agg #[Φ x.id,Φ x.owner,Φ x.kind,Φ x.spot.x,Φ x.spot.y,Φ x.dW,Φ x.load], .agg #[Φ y.id,Φ y.owner,Φ y.kind,Φ y.spot.x,Φ y.spot.y,Φ y.dW,Φ y.load]] w (λ e w'=>e= .returned (.bool (Sr W.field x y))∧Ext w w'):=by
 refine ch (n:=51) func101 Z Z Z ?_;refine dZ Z Z λ cG bB aR d' ae=> ?_;have hE:=ae.lt;refine jR Z Z λ eC cJ bt hP ar=> ?_;have bO:=γ aR bt;have mB:=ar.lt;refine jR Z Z λ hG jf cr rm br=> ?_;have c6:=γ bO cr;have xX:=br.lt;refine aJ Z<|aw<|aa (aj SX Z)<| ?_;have ar:=ar.later cr;refine bk Z ar aT Z<|cM Y9 Z (abJ (x.kind) _) λ nR gb=> ?_;have:=gb.size;have eZ:=γ c6 gb;refine vm Z<|bs Z Z<|bs Z Z<|cU Y_ Z λ rF Nr l' amG pU=> ?_;have iA:=γ eZ l';refine cF Z Z pU Z Y' Z Z λ zV mV pU=> ?_;have mG:=Ext.mod iA mV bo;refine aJ Z<|aw<|aa (aj vT Z)<| ?_;have ar:=(ar.later (γ gb l')).mod mV aO;refine aa (ax Z (ar.par [Φ x.spot.x,Φ x.spot.y] cA b3 Z))<|aa (aj vT Z)<| ?_;have br:=(br.later (γ gb l')).mod mV aO;refine aa (ax Z (br.par [Φ y.spot.x,Φ y.spot.y] cA b3 Z))<|cM aiq Z (aga x.spot y.spot _ (by omega) (by omega)) λ L1 o3=> ?_;have um:=γ mG o3;refine vm Z<|bs Z Z<|bs Z Z<|bs Z Z<|va Z<|va Z<|aJ Z<|av<|aw<|aa (aj HM Z)<| ?_;have ar:=ar.later o3;refine bk Z ar aT Z<|aa (aj HM Z)<| ?_;have br:=br.later o3;refine bk Z br aT Z<|aa (beq Z Z)<|vm Z<|ec Z Z<|bh Z (λ hc=>aj aze Z)<| ?_;have pU:=pU.later o3;refine bh Z (λ hc=>ax (gt hc Z) (pU.one aT Z))<|bh Z (λ hc=>gO (gt hc Z) (gt hc Z))<|aa (eW Z Z Z Z)<|aC<| ?_;refine du Z (λ xz=> ?_) (λ xz=> ?_)
 ·refine aw<|aY Z<|bD<|b_ Z Z<| ?_;exact ⟨by unfold Sr;rw [xz];rfl,um⟩
 ·refine bm<|aw<|aa (aj r7 Z)<| ?_;have ae:=((ae.later (γ bt (γ cr (γ gb l')))).mod mV aO).later o3;refine aa (ax Z (ae.par [Φ W.field.wide,Φ W.field.high, .slice a.P W.field.a_.length a.p] mo mq Z))<|aa (aj vT Z)<|aa (ax Z (ar.par [Φ x.spot.x,Φ x.spot.y] cA b3 Z))<|aa (aj vT Z)<|aa (ax Z (br.par [Φ y.spot.x,Φ y.spot.y] cA b3 Z))<|cM azf Z (aJg W.field x.spot y.spot _ _ _ (bZ.P.keep um)) λ DL im=> ?_;have nz:=γ um im;refine vm Z<|bs Z Z<|bs Z Z<|va Z<|aJ Z<|aB Z<|aY Z<|b_ Z Z<| ?_;exact ⟨by unfold Sr;rw [xz];rfl,nz⟩
theorem au2 (a:ai.b7) (W:ai) (l:List fc) (A:Option Addr) (c:Nat) (w:World) (bZ:ai.Has w a W) (ah:fc.rep.aK 16 w A c l):
  Calls prog 58 #[.agg ((ai.cells a W).toArray), .slice A l.length c] w (λ e w'=>∃ A c,e= .returned (.tuple #[.slice A (gR W l).length c,Φ (nF W l)])∧bu.aF 3 8 w' w.heap.size (J.ab A) A c (gR W l)∧Ext w w'):=by
 refine ch (n:=120) func58 Z Z Z ?_;refine dZ Z Z λ cG bB aR d' ae=> ?_;have hE:=ae.lt;refine va Z<|aJ Z<|av<|aw<|aa (ax Z (ae.all dz cd))<|cM Kk Z (EU a W _ (bZ.keep aR)) λ eC dm=> ?_;have:=dm.size;have bO:=γ aR dm;refine aJ Z<|aB Z<|cS Z Z<|aC<| ?_;refine eU Z (λ hz=> ?_) (λ hz=> ?_)
 ·refine aB Z<|va Z<|aY Z<|bD<|f_ Z Z Z<| ?_;exact agv (by unfold nF;rw [aYq hz]) hz bO
 ·have bP:=Good.Dx hz;have Ik:=bP.dJ;have akL:=λ i=>bP.aGD i;have fl:=λ x=>aHJ bP x;have FD:=λ x=>aHL W x;have tD:=ah.fa;refine bm<|av<|aB Z<|aa (b5 underlying101 Z)<|aa (gO Z Z)<|aC<| ?_;refine en Z (λ oI=> ?_) (λ oI=> ?_)
  ·refine aw<|va Z<|aY Z<|bD<|f_ Z Z Z<| ?_;exact agv (by unfold nF;rw [aYi (by simpa using hz),aYq (by omega)]) (by decide) bO
  ·refine bm<|aw<|acm Z λ BF LG wK aE0 asR=> ?_;have hZ:=γ bO wK;refine aJ Z<|av<|aw<|aa (aj ld Z)<| ?_;have ae:=ae.later (γ dm wK);refine bk Z ae nb Z<|aa (b5 underlying26 Z)<|vm Z<|aC<|bJ<| ?_;refine eV (λ cp cn aP=>∃ k:Nat,cn= [(1, .slice A l.length c),(2, .pointer (bA bB)),(4, .slice none 0 0),(5,Φ 0),(7, .map (some LG)),(30, .slice a.T W.ao.length a.t),(31,Φ (W.ao.length:Int)),(32,Φ (k:Int))]∧cp=W.ao.length - k∧Ext w aP∧aM aP bB (ai.cells a W) 28 (0,0)∧qH aP LG (eE (W.ao.take k))∧(k≤W.ao.length)) _ _ ⟨0,Z,Z,hZ,ae,asR,by omega⟩ (eO Z Z Z) ?_;rintro Dp aN4 wE ⟨k,rfl,rfl,lz,ae,nD,ak⟩;have:=lz.size;have aV3:=ae.lt;have aIm:=nD.lt;refine aw<|dR Z Z<|aC<|av<| ?_;refine en Z (λ tk=> ?_) (λ tk=> ?_)
   ·have aHo:=FD (l.getD k default).bd;have aHp:=FD (l.getD k default).l_;refine bm<|av<|bJ<|aB Z<|aa (cl k underlying26 lJ Z Z ((bZ.T.keep lz).bT (aV k (by omega))) Z (by omega))<|aa (ax Z (J.aK.iu kC ((bZ.T.keep lz).cD (aV k (by omega))) (dt (l:=W.ao) (u:=default) (by omega)) AW lJ))<|cU NW Z λ Qm aPC j5 aTL WW=> ?_;have yl:=γ lz j5;refine va Z<|cF Z Z WW Z lJ Z Z λ Jb px WW=> ?_;have sJ:=Ext.mod yl px bo;refine aC<|rg<|vm Z<|aa (aj Kl Z)<|bk Z WW aT Z<|vm Z<| ?_;have nD:=(nD.later j5).mod px aO;refine mu underlying141 underlying3 nD (aHK bP (by omega)) Z Z Z λ Jc rq nD=> ?_;have z8:=Ext.mod sJ rq bo;refine nl<|b1<|aX<|rg<|aa (bad Z Z (pk (by omega)))<|vm Z<|nl<| ?_;have ae:=((ae.later j5).mod px aO).mod rq aO;exact eJ ⟨k+1,Z,Z,z8,ae,(by rw [aD0 (by omega)];exact nD),by omega⟩
   ·refine dn<|dk<|dG<|dj<|aX<|aw<|aa (aj ld Z)<|bk Z ae nb Z<|aa (b5 underlying26 Z)<|PB (R:=bu) (by_:=8) (B:=w.heap.size) (c:=W.ao.length) (zv:=(Φ 0)) (q:=0) J.qa underlying22 xI Z Z (λ j u h=>Bw j u h) (λ _=>⟨Z,b8.2 (by decide)⟩) Z Z Z (by omega) (by omega) (by omega) λ L3 EP fF aTQ ED=> ?_;have:=fF.size;have wO:=γ lz fF;have adN:=bM ED.lt;have Ix:∀ q∈J.ab (bA EP),EP≤q:=λ q I=>aZQ (aYf.1 I).symm;refine aJ Z<|aw<|aa (aj ld Z)<| ?_;have ae:=ae.later fF;refine bk Z ae nb Z<|aa (b5 underlying26 Z)<|PB (R:=Bx) (by_:=1) (B:=w.heap.size) (c:=W.ao.length) (zv:=(.bool false)) (q:=false) J.qa underlying49 asE Z Z (λ j u h=>aoq j u h) (λ _=>⟨Z,trivial⟩) Z Z Z (by omega) (by omega) (by omega) λ wI xd kp abP JZ=> ?_;have kt:=γ wO kp;have ab1:∀ q∈J.ab (bA xd),xd≤q:=λ q I=>aZQ (aYf.1 I).symm;refine aJ Z<|av<|aB Z<|aa (b5 underlying101 Z)<|vm Z<|aC<|bJ<| ?_;have nD:=nD.later (γ fF kp);have ED:=ED.later kp;have ae:=ae.later kp;refine eV (λ cp cn aP=>∃ k:Nat,cn= [(2, .pointer (bA bB)),(4, .slice none 0 0),(5,Φ 0),(7, .map (some LG)),(10, .slice (bA EP) W.ao.length W.ao.length),(11, .slice (bA xd) W.ao.length W.ao.length),(50, .slice A l.length c),(51,Φ (l.length:Int)),(52,Φ (k:Int))]∧cp=l.length - k∧Ext w aP∧aM aP bB (ai.cells a W) 28 (0,0)∧qH aP LG (eE W.ao)∧bu.aF 3 8 aP w.heap.size (J.ab (bA EP)) (bA EP) W.ao.length ((lZ W (l.take k)).2)∧Bx.aF 4 1 aP w.heap.size (J.ab (bA xd)) (bA xd) W.ao.length ((lZ W (l.take k)).1)∧(k≤l.length)∧(∀ q∈J.ab (bA EP),q=bB→False)∧(∀ q∈J.ab (bA EP),q=LG→False)∧(∀ q∈J.ab (bA xd),q=bB→False)∧(∀ q∈J.ab (bA xd),q=LG→False)∧(∀ q∈J.ab (bA xd),q∈J.ab (bA EP)→False)) _ _ ⟨0,Z,Z,kt,ae,(by have e:k=W.ao.length:=(by omega);rw [e,aYS] at nD;exact nD),ED,JZ,by omega,(λ q I ag=>by (have:=Ix q I;omega)),(λ q I ag=>by (have:=Ix q I;omega)),(λ q I ag=>by (have:=ab1 q I;omega)),(λ q I ag=>by (have:=ab1 q I;omega)),(λ q I ag=>by (have:=ab1 q I;(have:=adN q ag;omega)))⟩ (eO Z Z Z) ?_;rintro ab7 aOi L8 ⟨k,rfl,rfl,o8,ae,nD,c_,vG,ak,vQ,o',pa,EZ,Cy⟩;have aWp:=ae.lt;have aoj:=nD.lt;have zQ:=bM c_.lt;have adU:=bM vG.lt;obtain ⟨dc,bI,er⟩:=Ya W (l.take k);have eg:(l.take k).length≤k:=bde k l;refine aw<|dR Z Z<|aC<|av<| ?_;refine en Z (λ aBl=> ?_) (λ aBl=> ?_)
    ·have aHo:=FD (l.getD k default).bd;have aHp:=FD (l.getD k default).l_;refine bm<|av<|bJ<|aw<|aa (cl k underlying101 Za Z Z ((ah.keep o8).bT (aV k (by omega))) Z (by omega))<|aa (ax Z (J.aK.iu aBH ((ah.keep o8).cD (aV k (by omega))) (dt (l:=l) (u:=default) (by omega)) azg Za))<|cU azh Z λ Jg aPP ox aT2 Mx=> ?_;have wQ:=γ o8 ox;have aWu:=Mx.lt;refine cF Z Z Mx Z Za Z Z λ Qr mW Mx=> ?_;have:=mW.size;have rR:=Ext.mod wQ mW bo;refine aC<|aB Z<|aa (aj azi Z)<|bk Z Mx aT Z<| ?_;have nD:=(nD.later ox).mod mW aO;refine aa (lk underlying141 underlying3 SZ nD Z Z)<|vm Z<|bs Z Z<|bs Z Z<|va Z<|aJ Z<|aB Z<|aa (aj azj Z)<|bk Z Mx aT Z<|aa (lk underlying141 underlying3 SZ nD Z Z)<|vm Z<|bs Z Z<|bs Z Z<|va Z<|aJ Z<|av<|av<| ?_;refine cO [(10,0),(13,0),(15,0),(18,0),(20,0),(23,0),(24,0)] [0,1,2,3,4,5,6,7,8,9,10,11,12,13,14,15,16,17,18,19,20,21,22,23,24,25,26] ?_;refine a1 Z Z<|aq Z (λ _=>dJ Z)<|a1 Z Z<|fy Z Z Z<|b0 Z Z (λ hc _=>dJ (gt hc Z))<|aq Z (λ _=>eW Z Z Z Z)<|a1 Z Z<|fy Z Z Z<|fy Z Z Z<| ?_;have vG:=(vG.later ox).mod mW (bU adU);refine b0 Z Z (λ hc _=>cl (((dv (eE W.ao) ((l.getD k default).bd)).getD 0).toNat) underlying49 Zb (gt hc Z) (gt hc Z) (vG.has.bT (aV (((dv (eE W.ao) ((l.getD k default).bd)).getD 0).toNat) (by (try rw [dc]);simp only [bn] at hc;first | exact (fl _ hc.1).1 | exact (fl _ hc.2).1 | exact (fl _ hc.1.1).1 | exact (fl _ hc.1.2).1))) (by (try simp only [bn] at hc);omega) (by (try rw [dc]);simp only [bn] at hc;first | exact (fl _ hc.1).1 | exact (fl _ hc.2).1 | exact (fl _ hc.1.1).1 | exact (fl _ hc.1.2).1))<|dL Z Z (λ hc _ x=>ax (gt hc Z) (J.aK.fh ajU ((vG.later x).has.cD (aV (((dv (eE W.ao) ((l.getD k default).bd)).getD 0).toNat) (by (try rw [dc]);simp only [bn] at hc;first | exact (fl _ hc.1).1 | exact (fl _ hc.2).1 | exact (fl _ hc.1.1).1 | exact (fl _ hc.1.2).1))) (dt (l:=(lZ W (l.take k)).1) (u:=false) (by (try rw [dc]);simp only [bn] at hc;first | exact (fl _ hc.1).1 | exact (fl _ hc.2).1 | exact (fl _ hc.1.1).1 | exact (fl _ hc.1.2).1)) Z CI))<|aq Z (λ _=>eW Z Z Z Z)<|a1 Z Z<| ?_;have ae:=(ae.later ox).mod mW aO;refine dL Z Z (λ hc _ x=>ax Z ((ae.later x).all dz cd))<|b0 Z Z (λ hc _=>aj ld Z)<|dL Z Z (λ hc _ x=>ax (gt hc Z) ((ae.later x).one nb Z))<|fy Z Z Z<|b0 Z Z (λ hc _=>cl (((dv (eE W.ao) ((l.getD k default).bd)).getD 0).toNat) underlying26 lJ (gt hc Z) (gt hc Z) ((bZ.T.keep rR).bT (aV (((dv (eE W.ao) ((l.getD k default).bd)).getD 0).toNat) (by (try rw [(rfl:W.ao.length=W.ao.length)]);simp only [bn] at hc;first | exact (fl _ hc.1).1 | exact (fl _ hc.2).1 | exact (fl _ hc.1.1).1 | exact (fl _ hc.1.2).1))) (by (try simp only [bn] at hc);omega) (by (try rw [(rfl:W.ao.length=W.ao.length)]);simp only [bn] at hc;first | exact (fl _ hc.1).1 | exact (fl _ hc.2).1 | exact (fl _ hc.1.1).1 | exact (fl _ hc.1.2).1))<|dL Z Z (λ hc _ x=>ax (gt hc Z) (J.aK.iu kC ((bZ.T.keep (γ rR x)).cD (aV (((dv (eE W.ao) ((l.getD k default).bd)).getD 0).toNat) (by (try rw [(rfl:W.ao.length=W.ao.length)]);simp only [bn] at hc;first | exact (fl _ hc.1).1 | exact (fl _ hc.2).1 | exact (fl _ hc.1.1).1 | exact (fl _ hc.1.2).1))) (dt (l:=W.ao) (u:=default) (by (try rw [(rfl:W.ao.length=W.ao.length)]);simp only [bn] at hc;first | exact (fl _ hc.1).1 | exact (fl _ hc.2).1 | exact (fl _ hc.1.1).1 | exact (fl _ hc.1.2).1)) AW lJ))<|b0 Z Z (λ hc _=>aj ld Z)<|dL Z Z (λ hc _ x=>ax (gt hc Z) ((ae.later x).one nb Z))<|fy Z Z Z<|b0 Z Z (λ hc _=>cl (((dv (eE W.ao) ((l.getD k default).l_)).getD 0).toNat) underlying26 lJ (gt hc Z) (gt hc Z) ((bZ.T.keep rR).bT (aV (((dv (eE W.ao) ((l.getD k default).l_)).getD 0).toNat) (by (try rw [(rfl:W.ao.length=W.ao.length)]);simp only [bn] at hc;first | exact (fl _ hc.1).1 | exact (fl _ hc.2).1 | exact (fl _ hc.1.1).1 | exact (fl _ hc.1.2).1))) (by (try simp only [bn] at hc);omega) (by (try rw [(rfl:W.ao.length=W.ao.length)]);simp only [bn] at hc;first | exact (fl _ hc.1).1 | exact (fl _ hc.2).1 | exact (fl _ hc.1.1).1 | exact (fl _ hc.1.2).1))<|dL Z Z (λ hc _ x=>ax (gt hc Z) (J.aK.iu kC ((bZ.T.keep (γ rR x)).cD (aV (((dv (eE W.ao) ((l.getD k default).l_)).getD 0).toNat) (by (try rw [(rfl:W.ao.length=W.ao.length)]);simp only [bn] at hc;first | exact (fl _ hc.1).1 | exact (fl _ hc.2).1 | exact (fl _ hc.1.1).1 | exact (fl _ hc.1.2).1))) (dt (l:=W.ao) (u:=default) (by (try rw [(rfl:W.ao.length=W.ao.length)]);simp only [bn] at hc;first | exact (fl _ hc.1).1 | exact (fl _ hc.2).1 | exact (fl _ hc.1.1).1 | exact (fl _ hc.1.2).1)) AW lJ))<|ef Z Z Z Z Z Z azk (λ hc=>gp (gt hc Z) (gp (gt hc Z) (gp (gt hc Z) Z))) (λ hc _ x=>awB a W ((W.ao.getD (((dv (eE W.ao) ((l.getD k default).bd)).getD 0).toNat) default)) ((W.ao.getD (((dv (eE W.ao) ((l.getD k default).l_)).getD 0).toNat) default)) _ (bZ.keep (γ rR x)) (akL _) (akL _)) Z<|b0 Z Z (λ hc _=>dJ (gt hc Z))<|aq Z (λ _=>eW Z Z Z Z)<|fn λ DQ mb=> ?_;have:=mb.size;have m5:=γ rR mb;refine aX<| ?_;refine du Z (λ A7=> ?_) (λ A7=> ?_)
     ·refine dn<|dk<|dj<|aX<|rg<|aa (bad Z Z (pk (by omega)))<|vm Z<|nl<| ?_;have aW:lZ W (l.take (k+1))=((lZ W (l.take k)).1,(lZ W (l.take k)).2):=by rw [agx W (by omega),agu A7]
      have ae:=ae.later mb;have nD:=nD.later mb;have c_:=((c_.later ox).mod mW (bU zQ)).later mb;have vG:=vG.later mb;exact eJ ⟨k+1,Z,Z,m5,ae,nD,(by rw [aW];exact c_),(by rw [aW];exact vG),by omega,vQ,o',pa,EZ,Cy⟩
     ·have eI:=A7;simp only [bn] at eI;have i1:=(fl _ eI.1.1.1).1;have i2:=(fl _ eI.1.1.2).1;have w1:=er (((dv (eE W.ao) ((l.getD k default).l_)).getD 0).toNat);have cx:=ajG (W.ao.getD (((dv (eE W.ao) ((l.getD k default).bd)).getD 0).toNat) default).kind;refine bm<|aw<|aa (aj ld Z)<| ?_;have ae:=ae.later mb;refine bk Z ae nb Z<|vm Z<|aa (cl (((dv (eE W.ao) ((l.getD k default).bd)).getD 0).toNat) underlying26 lJ Z Z ((bZ.T.keep m5).bT (aV (((dv (eE W.ao) ((l.getD k default).bd)).getD 0).toNat) (by omega))) (by omega) (by omega))<|aa (aj SX Z)<|aa (ax Z (J.aK.lg kC ((bZ.T.keep m5).cD (aV (((dv (eE W.ao) ((l.getD k default).bd)).getD 0).toNat) (by omega))) 2 (dt (l:=W.ao) (u:=default) (by omega)) Z aT))<|cM Y9 Z (abJ ((W.ao.getD (((dv (eE W.ao) ((l.getD k default).bd)).getD 0).toNat) default).kind) _) λ Gv fS=> ?_;have:=fS.size;have lA:=γ m5 fS;refine vm Z<|bs Z Z<|bs Z Z<|cU Y_ Z λ Md auM o6 aUc Mz=> ?_;have vz:=γ lA o6;refine cF Z Z Mz Z Y' Z Z λ aqc PK Mz=> ?_;have QQ:=Ext.mod vz PK bo;refine aJ Z<|aB Z<|vm Z<| ?_;have vG:=(vG.later (γ mb (γ fS o6))).mod PK (bU adU);refine aa (cl (((dv (eE W.ao) ((l.getD k default).bd)).getD 0).toNat) underlying49 Zb Z Z (vG.has.bT (aV (((dv (eE W.ao) ((l.getD k default).bd)).getD 0).toNat) (by omega))) (by omega) (by omega))<|so (q':=true) (j:=0) (i:=(((dv (eE W.ao) ((l.getD k default).bd)).getD 0).toNat)) vG J.dQ (dt (l:=(lZ W (l.take k)).1) (u:=false) (by omega)) Z Z Z Z (λ _ cs h=>by have rz:=(show _∧_ from h).2;obtain rfl:=ajU h;exact ⟨rfl,trivial⟩) Z Z Zb λ Gn lq Xw=> ?_;have D3:=Ext.mod QQ lq (λ q I=>(vG.lt q I).1);refine aC<| ?_;refine cO [(3,0),(5,0),(8,3)] [0,1,2,3,4,5,6,7,8] ?_;refine a1 Z Z<|a1 Z Z<| ?_;have c_:=((((c_.later ox).mod mW (bU zQ)).later (γ mb (γ fS o6))).mod PK (bU zQ)).mod lq (cQ Cy);refine aq Z (λ _=>cl (((dv (eE W.ao) ((l.getD k default).l_)).getD 0).toNat) underlying22 dg Z Z (c_.has.bT (aV (((dv (eE W.ao) ((l.getD k default).l_)).getD 0).toNat) (by omega))) (by omega) (by omega))<|dT Z (λ _ x=>ax Z (J.aK.fh fY ((c_.later x).has.cD (aV (((dv (eE W.ao) ((l.getD k default).l_)).getD 0).toNat) (by omega))) (dt (l:=(lZ W (l.take k)).2) (u:=0) (by omega)) Z aT))<|aq Z (λ _=>aj azl Z)<| ?_;have xk:∀ q∈J.ab (bA xd),q=auM→False:=λ q I ag=>by (have:=adU q I;omega)
      have Mz:=Mz.mod lq (λ I=>xk _ I rfl);refine cf Z Z Mz aT Z<|aq Z (λ _=>bad Z Z (pk (by omega)))<|aq Z (λ _=>cl (((dv (eE W.ao) ((l.getD k default).l_)).getD 0).toNat) underlying22 dg Z Z (c_.has.bT (aV (((dv (eE W.ao) ((l.getD k default).l_)).getD 0).toNat) (by omega))) (by omega) (by omega))<|dE Z Z Z λ VV vn Q hK=>so (q':=(((lZ W (l.take k)).2).getD (((dv (eE W.ao) ((l.getD k default).l_)).getD 0).toNat) 0)+(A8 ((W.ao.getD (((dv (eE W.ao) ((l.getD k default).bd)).getD 0).toNat) default).kind))) (j:=0) (i:=(((dv (eE W.ao) ((l.getD k default).l_)).getD 0).toNat)) (c_.later vn) J.dQ (dt (l:=(lZ W (l.take k)).2) (u:=0) (by omega)) Z Z Z Z (λ _ cs h=>by have rz:=(show _∧_ from h).2;obtain rfl:=fY h;exact ⟨rfl,b8.2 (by omega)⟩) Z Z dg λ Gp pq EC=>hK _ _ ?_;have BN:=γ D3 vn;have Jv:=Ext.mod BN pq (λ q I=>((c_.later vn).lt q I).1);refine fn λ ad2 DV=> ?_;have Jw:=γ Jv DV;refine b1<|aX<|rg<|aa (bad Z Z (pk (by omega)))<|vm Z<|nl<| ?_;have aW:lZ W (l.take (k+1))=(((lZ W (l.take k)).1).set (((dv (eE W.ao) ((l.getD k default).bd)).getD 0).toNat) true,((lZ W (l.take k)).2).set (((dv (eE W.ao) ((l.getD k default).l_)).getD 0).toNat) ((((lZ W (l.take k)).2).getD (((dv (eE W.ao) ((l.getD k default).l_)).getD 0).toNat) 0)+(A8 ((W.ao.getD (((dv (eE W.ao) ((l.getD k default).bd)).getD 0).toNat) default).kind)))):=by rw [agx W (by omega),agw A7]
      have ae:=(((((ae.later (γ fS o6)).mod PK aO).mod lq (λ I=>pa _ I rfl)).later vn).mod pq (λ I=>vQ _ I rfl)).later DV;have nD:=(((((nD.later (γ mb (γ fS o6))).mod PK aO).mod lq (λ I=>EZ _ I rfl)).later vn).mod pq (λ I=>o' _ I rfl)).later DV;have EC:=EC.later DV;have Xw:=((Xw.later vn).mod pq Cy).later DV;exact eJ ⟨k+1,Z,Z,Jw,ae,nD,(by rw [aW];exact EC),(by rw [aW];exact Xw),by omega,vQ,o',pa,EZ,Cy⟩
    ·refine dn<|dk<|dG<|dj<|aX<|aB Z<|va Z<|aY Z<|f_ Z Z Z<| ?_;obtain ⟨r1,r2⟩:=au1 hz oI;have e:k=l.length:=by omega
     rw [e,aYS] at c_;rw [r1,r2];exact ⟨_,_,by rw [(Ya W l).2.1];rfl,c_,o8⟩
end
end Go.Proofs.YtmeeljmapailnaaGreat
