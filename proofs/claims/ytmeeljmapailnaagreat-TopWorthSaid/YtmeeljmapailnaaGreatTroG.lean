import Derived.Test.YtmeeljmapailnaaGreatPtq
set_option linter.unusedVariables false
set_option linter.unusedSimpArgs false
set_option maxRecDepth 100000
set_option maxHeartbeats 4000000
open Go.RowKit
namespace Go.Proofs.YtmeeljmapailnaaGreat
open Tryz
abbrev aT7:=@List.setIfInBounds_toArray
abbrev aV2:=@Go.wpQuiet_nil
abbrev aWP:=@Go.World.cell?_of_block
section
theorem aBw (a:ae.b2) (W:ae) (w:World) (bG:ae.Has w a W) (aG:W.field.bm=0) (gh:W.aV.length≤8):
    Calls prog 65 #[.agg (ae.cells a W).toArray] w λ e w'=>e= .returned (.bool W.oJ)∧Below w.heap.size w w':=by
  obtain ⟨eT,gj,gl,fE,eZ,fr,fP,gy,fW,fH⟩:=a;show Calls _ _ #[.agg #[.int .i64 W.field.wide, .int .i64 W.field.high, .slice eT W.field.aW.length fr, .slice gj W.aV.length fP, .slice gl W.ba.length gy, .slice fE W.bk.length fW, .slice eZ W.ak.length fH, .int .i64 W.next, .int .i64 W.now]] _ _;obtain ⟨kg,kF⟩:∃ n,Hid (W.aV.length=n):=⟨_,aRY rfl⟩;obtain ⟨ns,AR⟩:∃ n,Hid (W.ba.length=n):=⟨_,aRY rfl⟩;have gh:kg≤8:=by rw [← kF.out];exact gh
  have cH:=lN w (.cells (ae.cells ⟨eT,gj,gl,fE,eZ,fr,fP,gy,fW,fH⟩ W).toArray 28);have jK:=aRY (aP.new w (ae.cells ⟨eT,gj,gl,fE,eZ,fr,fP,gy,fW,fH⟩ W) 28 (0,0));have mZ:=aRY (bG.keep cH);have xf:=aRY aG;obtain ⟨w0,jN⟩:∃ w0,Hid (w.alloc (.cells (ae.cells ⟨eT,gj,gl,fE,eZ,fr,fP,gy,fW,fH⟩ W).toArray 28)=w0):=⟨_,aRY rfl⟩;rw [jN.out] at cH mZ;have jK:Hid (aP w0 w.heap.size (ae.cells ⟨eT,gj,gl,fE,eZ,fr,fP,gy,fW,fH⟩ W) 28 (0,0)):=by rw [← jN.out];exact jK
  have pP:Hid (w.alloc (.cells #[.int .i64 W.field.wide, .int .i64 W.field.high, .slice eT W.field.aW.length fr, .slice gj kg fP, .slice gl ns gy, .slice fE W.bk.length fW, .slice eZ W.ak.length fH, .int .i64 W.next, .int .i64 W.now] 28)=w0):=by rw [← jN.out,← kF.out,← AR.out];rfl
  obtain ⟨bZ,c1,c2,c3,c4,c5,dG,dT,eD⟩:=ae.tO jK.out;rw [kF.out] at c3;rw [AR.out] at c4;clear bG aG;by_cases hlen:ns=kg
  · subst hlen
    have CO:Hid (∀ j,j<0→W.yg j=true):=aRY λ j az=>absurd az (by omega);go_enter func65,ntmps65;rw [kF.out,AR.out];go_wp2_with fail
    rw [pP.out];go_loopw [3,4,15] (λ _ _ hB wr=>∃ k:Nat,k≤ns∧hB= .int .i64 (k:Int)∧Hid (∀ j,j<k→W.yg j=true)∧Below w0.heap.size w0 wr) (λ _ _ hB _=>ns - (intOf hB).toNat)
    case atStart=>exact ⟨0,aSM _,rfl,CO,aSr _ _⟩
    case round =>
      clear CO bZ c1 c2 c3 c4 c5 dG dT eD;obtain ⟨k,ar,rfl,ie,Φ⟩:=hrel;by_cases bz:k<ns
      · obtain ⟨p,hp⟩:=iM (l:=W.aV) (i:=k) (by rw [kF.out];exact bz)
        obtain ⟨st,hs⟩:=iM (l:=W.ba) (i:=k) (by rw [AR.out];exact bz);have QC:=mZ.out.keep Φ;have afL:=jK.out.later Φ;have QB:ax.rep.aJ 16 wr gj fP W.aV:=QC.B;have Lm:bQ.aJ 8 wr eT fr W.field.aW:=QC.P;have afT:bQ.aJ 8 wr gl gy W.ba:=QC.S;have aKi:(ns:Int)≤(fP:Int):=by have:=QB.1;rw [kF.out] at this;omega
        obtain ⟨b,o,rfl,j1⟩:=ax.at_ QB (by rw [kF.out];omega);obtain ⟨Nl,eM⟩:=j1 k p hp;obtain ⟨cX,os,rfl,agv⟩:=Gw afT (by rw [AR.out];omega);have Zk:=agv k st hs;obtain ⟨bZ,c1,c2,c3,c4,c5,dG,dT,eD⟩:=ae.tO afL;rw [kF.out] at c3;rw [AR.out] at c4;have eh:W.yg k=(W.field.ground p && !(W.aV.take k).contains p && cN st 0 1000000):=by
          unfold ae.yg;rw [aRU,hp,aRU,hs];rfl
        have cP:=lN wr (.cells #[.int .i64 p.x, .int .i64 p.y] 55);have QA:=aP.new wr p.cells 55 (0,0);obtain ⟨aT,T3⟩:∃ aT,Hid (wr.alloc (.cells #[.int .i64 p.x, .int .i64 p.y] 55)=aT):=⟨_,aRY rfl⟩;rw [T3.out] at cP;have QA:aP aT wr.heap.size p.cells 55 (0,0):=by rw [← T3.out];exact QA
        obtain ⟨D8,r1⟩:=ax.fy QA;have lu:=aRY (λ (V:World) (h:Below aT.heap.size aT V)=>Li W.field p eT fr V ((Lm.keep cP).keep h) xf.out);have AM:=aRY (λ (V:World) (h:Below aT.heap.size aT V)=>av2 p (some ⟨b,o,none⟩) fP (W.aV.take k) V (((QB.NH k).keep cP).keep h));have jg:(W.aV.take k).length=k:=by rw [aRZ,kF.out];omega
        rw [jg] at AM;have mE:=aRY (λ (V:World)=>S' st 0 1000000 V);have lx:=aRY eh;have Du:=aSr aT.heap.size aT;have Dt:=Φ.trans (cP.mono Φ.size);have p':(k:Int)<(ns:Int):=by omega
        have p9:(0:Int)≤(k:Int):=by omega
        have awT:(k:Int)≤(fP:Int):=by omega
        have Xl:k≤fP:=by omega
        clear QC afL j1 agv hp hs eh jg QB Lm afT;go_wp2_with fail
        rw [T3.out];have bZ:=cell_later cP bZ;have c1:=cell_later cP c1;have c2:=cell_later cP c2;have c3:=cell_later cP c3;have c4:=cell_later cP c4;have Zk:=cell_later cP Zk;have fv:=aRY (λ (my:World) (h:Below aT.heap.size aT my)=>(⟨trivial,cell_later h bZ,cell_later h c1,cell_later h c2,cell_later h c3,cell_later h c4,cell_later h D8,cell_later h r1,cell_later h Zk⟩:True∧my.cell? ⟨w.heap.size,0,none⟩=some (.int .i64 W.field.wide)∧my.cell? ⟨w.heap.size,1,none⟩=some (.int .i64 W.field.high)∧my.cell? ⟨w.heap.size,2,none⟩=some (.slice eT W.field.aW.length fr)∧my.cell? ⟨w.heap.size,3,none⟩=some (.slice (some ⟨b,o,none⟩) ns fP)∧my.cell? ⟨w.heap.size,4,none⟩=some (.slice (some ⟨cX,os,none⟩) ns gy)∧my.cell? ⟨wr.heap.size,0,none⟩=some (.int .i64 p.x)∧my.cell? ⟨wr.heap.size,1,none⟩=some (.int .i64 p.y)∧my.cell? ⟨cX,os+k,none⟩=some (.int .i64 st)));clear Nl eM c5 dG dT eD QA;cases κ:W.field.ground p with
        | false =>
          rw [κ] at lu;have bV:Hid (W.oJ=false):=ae.YW (k:=k) (by rw [kF.out];exact bz) (by rw [lx.out,κ];rfl);clear κ;refine Td (by kernel_rfl) (by kernel_rfl) ?_;repeat (first
            | go_big_quiet_skip
            | (go_big_quiet_want
               first
               | (go_big_quiet_op;go_big_quiet_on)
               | (apply Exists.intro
                  refine ⟨λ GO I=> ?_, ?_⟩
                  · first
                    | (obtain ⟨_,Y3,Y4,Y5,Y6,Y7,Y8,Y9,Y_⟩:=fv.out GO I
                       apply Sd
                       · (go_simp;rfl)
                       · rfl)
                    | (apply Sc
                       · (go_simp;rfl)
                       · rfl
                       · first
                         | (with_reducible refine (lu.out _ I).mono ?_;rintro e cB ⟨rfl,bw⟩;exact ⟨rfl,oq I bw⟩)
                         | (with_reducible refine (AM.out _ I).mono ?_;rintro e cB ⟨rfl,bw⟩;exact ⟨rfl,oq I bw⟩)
                         | (with_reducible refine (mE.out _).mono ?_;rintro e cB ⟨rfl,rfl⟩;exact ⟨rfl,I⟩)
                       )
                  go_big_quiet_on
                  simp only [Act.put,aT7,aTT,aTD])))
          refine aV2 ?_;intro Cn bC;go_wp2_with fail
          go_ret;exact ⟨iu bV.out.symm,cH.trans ((Dt.trans (aWm bC Dt.size)).mono cH.size)⟩
        | true =>
          rw [κ] at lu;cases ab:(W.aV.take k).contains p with
          | true =>
            rw [ab] at AM;have bV:Hid (W.oJ=false):=ae.YW (k:=k) (by rw [kF.out];exact bz) (by rw [lx.out,κ,ab];rfl);clear κ ab;refine Td (by kernel_rfl) (by kernel_rfl) ?_;repeat (first
              | go_big_quiet_skip
              | (go_big_quiet_want
                 first
                 | (go_big_quiet_op;go_big_quiet_on)
                 | (apply Exists.intro
                    refine ⟨λ GO I=> ?_, ?_⟩
                    · first
                      | (obtain ⟨_,Y3,Y4,Y5,Y6,Y7,Y8,Y9,Y_⟩:=fv.out GO I
                         apply Sd
                         · (go_simp;rfl)
                         · rfl)
                      | (apply Sc
                         · (go_simp;rfl)
                         · rfl
                         · first
                           | (with_reducible refine (lu.out _ I).mono ?_;rintro e cB ⟨rfl,bw⟩;exact ⟨rfl,oq I bw⟩)
                           | (with_reducible refine (AM.out _ I).mono ?_;rintro e cB ⟨rfl,bw⟩;exact ⟨rfl,oq I bw⟩)
                           | (with_reducible refine (mE.out _).mono ?_;rintro e cB ⟨rfl,rfl⟩;exact ⟨rfl,I⟩)
                         )
                    go_big_quiet_on
                    simp only [Act.put,aT7,aTT,aTD])))
            refine aV2 ?_;intro Cn bC;go_wp2_with fail
            go_ret;exact ⟨iu bV.out.symm,cH.trans ((Dt.trans (aWm bC Dt.size)).mono cH.size)⟩
          | false =>
            rw [ab] at AM;cases aw:cN st 0 1000000 with
            | false =>
              rw [aw] at mE;have bV:Hid (W.oJ=false):=ae.YW (k:=k) (by rw [kF.out];exact bz) (by rw [lx.out,aw,aV9]);clear κ ab aw;refine Td (by kernel_rfl) (by kernel_rfl) ?_;repeat (first
                | go_big_quiet_skip
                | (go_big_quiet_want
                   first
                   | (go_big_quiet_op;go_big_quiet_on)
                   | (apply Exists.intro
                      refine ⟨λ GO I=> ?_, ?_⟩
                      · first
                        | (obtain ⟨_,Y3,Y4,Y5,Y6,Y7,Y8,Y9,Y_⟩:=fv.out GO I
                           apply Sd
                           · (go_simp;rfl)
                           · rfl)
                        | (apply Sc
                           · (go_simp;rfl)
                           · rfl
                           · first
                             | (with_reducible refine (lu.out _ I).mono ?_;rintro e cB ⟨rfl,bw⟩;exact ⟨rfl,oq I bw⟩)
                             | (with_reducible refine (AM.out _ I).mono ?_;rintro e cB ⟨rfl,bw⟩;exact ⟨rfl,oq I bw⟩)
                             | (with_reducible refine (mE.out _).mono ?_;rintro e cB ⟨rfl,rfl⟩;exact ⟨rfl,I⟩)
                           )
                      go_big_quiet_on
                      simp only [Act.put,aT7,aTT,aTD])))
              refine aV2 ?_;intro Cn bC;go_wp2_with fail
              go_ret;exact ⟨iu bV.out.symm,cH.trans ((Dt.trans (aWm bC Dt.size)).mono cH.size)⟩
            | true =>
              rw [aw] at mE;have pL:Hid (∀ j,j<k+1→W.yg j=true):=by
                intro j az;by_cases g_:j<k
                · exact ie.out j g_
                · obtain rfl:j=k:=by omega
                  rw [lx.out,κ,ab,aw];rfl
              clear κ ab aw;refine Td (by kernel_rfl) (by kernel_rfl) ?_;repeat (first
                | go_big_quiet_skip
                | (go_big_quiet_want
                   first
                   | (go_big_quiet_op;go_big_quiet_on)
                   | (apply Exists.intro
                      refine ⟨λ GO I=> ?_, ?_⟩
                      · first
                        | (obtain ⟨_,Y3,Y4,Y5,Y6,Y7,Y8,Y9,Y_⟩:=fv.out GO I
                           apply Sd
                           · (go_simp;rfl)
                           · rfl)
                        | (apply Sc
                           · (go_simp;rfl)
                           · rfl
                           · first
                             | (with_reducible refine (lu.out _ I).mono ?_;rintro e cB ⟨rfl,bw⟩;exact ⟨rfl,oq I bw⟩)
                             | (with_reducible refine (AM.out _ I).mono ?_;rintro e cB ⟨rfl,bw⟩;exact ⟨rfl,oq I bw⟩)
                             | (with_reducible refine (mE.out _).mono ?_;rintro e cB ⟨rfl,rfl⟩;exact ⟨rfl,I⟩)
                           )
                      go_big_quiet_on
                      simp only [Act.put,aT7,aTT,aTD])))
              refine aV2 ?_;intro Cn bC;go_wp2_with fail
              go_roundw
              case rel=>exact ⟨k+1,by omega,by go_num,pL,Dt.trans (aWm bC Dt.size)⟩
              case measure=>simp [intOf];omega
      · have rB:Hid (W.oJ=true):=ae.akL (by rw [AR.out,kF.out]) λ j az=>ie.out j (by rw [kF.out] at az;omega)
        clear ie;go_wp2_with fail
        go_ret;exact ⟨iu rB.out.symm,cH.trans (Φ.mono cH.size)⟩
  · have rB:Hid (W.oJ=false):=ae.aBx (by rw [AR.out,kF.out];exact hlen)
    have hd:((ns:Int) != (kg:Int))=true:=by simp;omega
    rw [rB.out];go_enter func65,ntmps65;rw [kF.out,AR.out];go_wp2_with fail
    go_ret;rw [pP.out];exact ⟨Z,cH⟩
end
section
theorem aAb (a:ae.b2) (W:ae) (w:World) (bG:ae.Has w a W):
  Calls prog 66 #[.agg (ae.cells a W).toArray] w λ e w'=>e= .returned (.bool W.px)∧Below w.heap.size w w':=by
 obtain ⟨eT,gj,gl,fE,eZ,fr,fP,gy,fW,fH⟩:=a;show Calls _ _ #[.agg #[.int .i64 W.field.wide, .int .i64 W.field.high, .slice eT W.field.aW.length fr, .slice gj W.aV.length fP, .slice gl W.ba.length gy, .slice fE W.bk.length fW, .slice eZ W.ak.length fH, .int .i64 W.next, .int .i64 W.now]] _ _;have cH:=lN w (.cells (ae.cells ⟨eT,gj,gl,fE,eZ,fr,fP,gy,fW,fH⟩ W).toArray 28);have jK:=aRY (aP.new w (ae.cells ⟨eT,gj,gl,fE,eZ,fr,fP,gy,fW,fH⟩ W) 28 (0,0));have mZ:=aRY (bG.keep cH);obtain ⟨w0,jN⟩:∃ w0,Hid (w.alloc (.cells (ae.cells ⟨eT,gj,gl,fE,eZ,fr,fP,gy,fW,fH⟩ W).toArray 28)=w0):=⟨_,aRY rfl⟩;rw [jN.out] at cH mZ;have jK:Hid (aP w0 w.heap.size (ae.cells ⟨eT,gj,gl,fE,eZ,fr,fP,gy,fW,fH⟩ W) 28 (0,0)):=by rw [← jN.out];exact jK
 obtain ⟨nm,t_⟩:∃ n,Hid (W.bk.length=n):=⟨_,aRY rfl⟩;obtain ⟨Nb,AQ⟩:∃ n,Hid (W.field.aW.length=n):=⟨_,aRY rfl⟩;have hle:nm≤9223372036854775807:=by have:=bG.M.eE;rw [t_.out] at this;exact this
 have pP:Hid (w.alloc (.cells #[.int .i64 W.field.wide, .int .i64 W.field.high, .slice eT Nb fr, .slice gj W.aV.length fP, .slice gl W.ba.length gy, .slice fE nm fW, .slice eZ W.ak.length fH, .int .i64 W.next, .int .i64 W.now] 28)=w0):=by rw [← jN.out,← t_.out,← AQ.out];rfl
 obtain ⟨bZ,c1,c2,c3,c4,c5,dG,dT,eD⟩:=ae.tO jK.out;rw [AQ.out] at c2;rw [t_.out] at c5;clear bG;by_cases hlen:nm=Nb
 ·subst hlen;have CO:Hid (∀ j,j<0→W.yh j=true):=aRY λ j az=>absurd az (by omega);go_enter func66,ntmps66;rw [AQ.out,t_.out];go_wp2_with fail
  rw [pP.out];go_loopw [3,4,16] (λ _ _ hB wr=>∃ k:Nat,k≤nm∧hB= .int .i64 (k:Int)∧Hid (∀ j,j<k→W.yh j=true)∧Hid (wr=w0)) (λ _ _ hB _=>nm - (intOf hB).toNat)
  case atStart=>exact ⟨0,aSM _,rfl,CO,rfl⟩
  case round =>
   clear CO bZ c1 c2 c3 c4 c5 dG dT eD;obtain ⟨k,ar,rfl,ie,Hp⟩:=hrel;obtain ⟨bZ,c1,c2,c3,c4,c5,dG,dT,eD⟩:=ae.tO (show aP wr w.heap.size (ae.cells ⟨eT,gj,gl,fE,eZ,fr,fP,gy,fW,fH⟩ W) 28 (0,0) by rw [Hp.out];exact jK.out);rw [AQ.out] at c2;rw [t_.out] at c5;have mL:Below w.heap.size w wr:=by rw [Hp.out];exact cH
   by_cases bz:k<nm
   ·obtain ⟨p,hp⟩:=iM (l:=W.field.aW) (i:=k) (by rw [AQ.out];exact bz);obtain ⟨m,hm⟩:=iM (l:=W.bk) (i:=k) (by rw [t_.out];exact bz);have Lm:bQ.aJ 8 wr eT fr W.field.aW:=by rw [Hp.out];exact mZ.out.P
    have afS:bQ.aJ 8 wr fE fW W.bk:=by rw [Hp.out];exact mZ.out.M
    obtain ⟨b,o,rfl,j1⟩:=Gw Lm (by rw [AQ.out];omega);have Nl:=j1 k p hp;obtain ⟨aIZ,aOm,rfl,agu⟩:=Gw afS (by rw [t_.out];omega);have aNi:=agu k m hm;have eh:W.yh k=(cN m 0 1000000 && (decide (m≤0) || p == 3)):=by
     unfold ae.yh;rw [aRU,hm,aRU,hp];rfl
    have mE:=aRY (λ (V:World)=>S' m 0 1000000 V);have lx:=aRY eh;have p':(k:Int)<(nm:Int):=by omega
    have p9:(0:Int)≤(k:Int):=by omega
    clear Lm afS j1 agu hp hm eh;cases κ:cN m 0 1000000 with
    | false =>
     rw [κ] at mE;have bV:Hid (W.px=false):=ae.aka (k:=k) (by rw [t_.out];exact bz) (by rw [lx.out,κ];rfl);clear κ;go_wp2_with fail
     refine (mE.out _).mono ?_;rintro e w' ⟨rfl,rfl⟩;go_wp2_with fail
     go_ret;exact ⟨iu bV.out.symm,mL⟩
    | true =>
     rw [κ] at mE;by_cases ab:m≤0
     ·have hd:decide (0<m)=false:=by simp;omega
      have pL:Hid (∀ j,j<k+1→W.yh j=true):=by
       intro j az;by_cases g_:j<k
       ·exact ie.out j g_
       ·obtain rfl:j=k:=by omega
        rw [lx.out,κ,aSw ab];rfl
      clear κ;go_wp2_with fail
      refine (mE.out _).mono ?_;rintro e w' ⟨rfl,rfl⟩;go_wp2_with fail
      go_roundw
      case rel=>exact ⟨k+1,by omega,by go_num,pL,Hp⟩
      case measure=>simp [intOf];omega
     ·have hd:decide (0<m)=true:=by simp;omega
      by_cases aw:p=3
      ·subst aw;have pL:Hid (∀ j,j<k+1→W.yh j=true):=by
        intro j az;by_cases g_:j<k
        ·exact ie.out j g_
        ·obtain rfl:j=k:=by omega
         rw [lx.out,κ];simp
       clear κ ab;go_wp2_with fail
       refine (mE.out _).mono ?_;rintro e w' ⟨rfl,rfl⟩;go_wp2_with fail
       go_roundw
       case rel=>exact ⟨k+1,by omega,by go_num,pL,Hp⟩
       case measure=>simp [intOf];omega
      ·have bV:Hid (W.px=false):=ae.aka (k:=k) (by rw [t_.out];exact bz) (by rw [lx.out,aSF ab,beq_false_of_ne aw];simp);have Ik:(p == 3)=false:=by simpa using aw
       clear κ ab aw;go_wp2_with fail
       refine (mE.out _).mono ?_;rintro e w' ⟨rfl,rfl⟩;go_wp2_with fail
       go_ret;exact ⟨iu bV.out.symm,mL⟩
   ·have rB:Hid (W.px=true):=ae.akb (by rw [t_.out,AQ.out]) λ j az=>ie.out j (by rw [t_.out] at az;omega);clear ie;go_wp2_with fail
    go_ret;exact ⟨iu rB.out.symm,mL⟩
 ·have rB:Hid (W.px=false):=ae.aAc (by rw [t_.out,AQ.out];exact hlen);have hd:((nm:Int) != (Nb:Int))=true:=by simp;omega
  rw [rB.out];go_enter func66,ntmps66;rw [AQ.out,t_.out];go_wp2_with fail
  go_ret;rw [pP.out];exact ⟨Z,cH⟩
end
section
theorem pD {n lo aq:Int} {b:Bool} (h:cN n lo aq=b) (w:World):Calls prog 113 #[.int .i64 n, .int .i64 lo, .int .i64 aq] w λ e w'=>e= .returned (.bool b)∧w=w':=by
 have:=S' n lo aq w;rw [h] at this;exact this
theorem dE.drewN {gA:Type} {key:gA→Value} {w:World} {b:Nat} {l:List (gA×Int×Nat)} {clock:Nat} (h:dE key w b l clock) (n:Nat):dE key (w.drewN n) b l clock:=⟨h.fy,h.born,h.stamps⟩
theorem aev (w:World):w.drewN 1=w.drew:=rfl
theorem aP.of_heap {w w':World} {g:Nat} {cur:List Value} {e:TypeId} {aB:Nat×Nat} (h:aP w g cur e aB) (fV:w'.heap[g]? =w.heap[g]?):aP w' g cur e aB:=fV.trans h
theorem ae9 {w:World} {b:Nat} {l:List (ax×Int×Nat)} {lO:Nat} (h:dE ax.key w b l lO) (hw:∀ e∈l,e.1.ok) (hn:(l.map (·.1)).Nodup) (x:ax) (hx:x.ok) (v:Int) (hv:(dE.get l x).getD 0=v):
  ∃ (st:Nat) (eu:List (ax×Int×Nat)) (c1:Nat) (yA sz:World),
   (∀ n,(Instr.lookup 205 (.map (some b)) (.agg #[.int .i64 x.x, .int .i64 x.y]) false).run prog (w.drewN n)= .ok (.int .i64 v) (w.drewN n))∧
   (∀ n,(Instr.mapEntry 205 (.map (some b)) (.agg #[.int .i64 x.x, .int .i64 x.y])).run prog (w.drewN n)= .ok (.tuple #[.int .i64 v, .int .i64 (st:Int)]) (yA.drewN n))∧
   (∀ n,(Instr.lookup 205 (.map (some b)) (.agg #[.int .i64 x.x, .int .i64 x.y]) false).run prog (yA.drewN n)= .ok (.int .i64 v) (yA.drewN n))∧
   (∀ n,(Instr.entryStore 205 (.map (some b)) (.int .i64 (st:Int)) (.int .i64 (v+1))).run prog (yA.drewN n)= .ok () (sz.drewN n))∧
   (∀ n,(Instr.lookup 205 (.map (some b)) (.agg #[.int .i64 x.x, .int .i64 x.y]) false).run prog (sz.drewN n)= .ok (.int .i64 (v+1)) (sz.drewN n))∧
   dE ax.key sz b (dE.put l lO x (v+1)) (dE.tick l lO x)∧
   (∀ p:Addr,p.block≠b→yA.cell? p=w.cell? p)∧(∀ p:Addr,p.block≠b→sz.cell? p=w.cell? p)∧
   ∀ {B:Nat} {a:World},B≤b→(Below B a w→Below B a sz)∧(∀ g,g≠b→sz.heap[g]? =w.heap[g]?):=by
 obtain ⟨st,eu,dU,aZ,bh,cF,jd,KV,KW⟩:=dE.entry ax.zJ underlying205 aV0 h hw hn x hx;have DF:=λ n=>(dE.lookup (w:=w.drewN n) ax.zJ underlying205 (aV0 _) (h.drewN n) hw hn x hx).1;have DG:=λ n=>(dE.lookup (w:=(jk w b (eu.map (dH ax.key)).toArray dU).drewN n) ax.zJ underlying205 (aV0 _) (bh.drewN n) cF jd x hx).1;have hp:=(KW (v+1) 0).2;have DH:=λ n=>(dE.lookup (w:=(jk w b ((dE.put l lO x (v+1)).map (dH ax.key)).toArray (dE.tick l lO x)).drewN n) ax.zJ underlying205 (aV0 _) (hp.drewN n) (dE.Yx hw hx) (dE.IE hn lO x (v+1)) x hx).1;simp only [KV,hv,aS2] at DF DG aZ;simp only [dE.Bs,aR8,aS2] at DH;exact ⟨st,eu,dU,_,_,DF,aZ,DG,λ n=>(KW (v+1) n).1,DH,hp,λ p hp=>aWP (NA hp),λ p hp=>aWP (NA hp),
  fun {B a} bf=>⟨λ Φ=>aCX Φ bf,λ g aO=>NA aO⟩⟩
theorem aDU (a:ae.b2) (W:ae) (w:World) (bG:ae.Has w a W) (aG:W.field.bm=0) (gh:W.aV.length≤8) (xL:W.ak.length≤100):
  Calls prog 67 #[.agg (ae.cells a W).toArray] w λ e w'=>e= .returned (.bool W.kO)∧Below w.heap.size w w':=by
 obtain ⟨eT,gj,gl,fE,eZ,fr,fP,gy,fW,fH⟩:=a;show Calls _ _ #[.agg #[.int .i64 W.field.wide, .int .i64 W.field.high, .slice eT W.field.aW.length fr, .slice gj W.aV.length fP, .slice gl W.ba.length gy, .slice fE W.bk.length fW, .slice eZ W.ak.length fH, .int .i64 W.next, .int .i64 W.now]] _ _;have cH:=lN w (.cells (ae.cells ⟨eT,gj,gl,fE,eZ,fr,fP,gy,fW,fH⟩ W).toArray 28);have jK:=aRY (aP.new w (ae.cells ⟨eT,gj,gl,fE,eZ,fr,fP,gy,fW,fH⟩ W) 28 (0,0));have mZ:=aRY (bG.keep cH);obtain ⟨w0,jN⟩:∃ w0,Hid (w.alloc (.cells (ae.cells ⟨eT,gj,gl,fE,eZ,fr,fP,gy,fW,fH⟩ W).toArray 28)=w0):=⟨_,aRY rfl⟩;rw [jN.out] at cH mZ;have jK:Hid (aP w0 w.heap.size (ae.cells ⟨eT,gj,gl,fE,eZ,fr,fP,gy,fW,fH⟩ W) 28 (0,0)):=by rw [← jN.out];exact jK
 obtain ⟨dV,iF⟩:∃ n,Hid (W.ak.length=n):=⟨_,aRY rfl⟩;obtain ⟨kg,kF⟩:∃ n,Hid (W.aV.length=n):=⟨_,aRY rfl⟩;have gh:kg≤8:=by rw [← kF.out];exact gh
 have xL:dV≤100:=by rw [← iF.out];exact xL
 have xf:=aRY aG;have CP:=aRY bG;obtain ⟨Gq,th⟩:∃ Gq,wrap64 (W.next - 1)=Gq:=⟨_,rfl⟩;have abw:=aRY th;have pP:Hid (w.alloc (.cells #[.int .i64 W.field.wide, .int .i64 W.field.high, .slice eT W.field.aW.length fr, .slice gj kg fP, .slice gl W.ba.length gy, .slice fE W.bk.length fW, .slice eZ dV fH, .int .i64 W.next, .int .i64 W.now] 28)=w0):=by rw [← jN.out,← kF.out,← iF.out];rfl
 obtain ⟨bZ,c1,c2,c3,c4,c5,dG,dT,eD⟩:=ae.tO jK.out;rw [kF.out] at c3;rw [iF.out] at dG;clear bG aG;have Q7:=@run_makeMap prog;have Q5:=dE.made (key:=ax.key) w0;have LM:=lN w0 (.map #[] 0);obtain ⟨am8,abG⟩:∃ am8,Hid (w0.alloc (.map #[] 0)=am8):=⟨_,aRY rfl⟩;rw [abG.out] at Q5 LM;have jz:w0.heap.size=w.heap.size+1:=by rw [← jN.out];simp
 rw [jz] at Q5;have TX:=aRY Q5;have CO:Hid (∀ j,j<0→W.yi j=true):=aRY λ j az=>absurd az (by omega);clear Q5;go_enter func67,ntmps67;rw [kF.out,iF.out];go_wp2_with fail
 rw [pP.out,abG.out];have abu:Hid (bQ.aJ 8 w eT fr W.field.aW):=aRY CP.out.P;have aoB:Hid (aY.rep.aJ 56 w eZ fH W.ak):=aRY CP.out.T;have aKE:=xL;have FK:=jK.out.later LM;have agd:=cH.trans (LM.mono cH.size);clear bZ c1 c2 c3 c4 c5 dG dT eD Q7;obtain ⟨eF,TY⟩:∃ eF,Hid (w.heap.size+1=eF):=⟨_,aRY rfl⟩;rw [TY.out];rw [TY.out] at TX;go_loopw [3,6,7,8,9,14] (λ azR _ _ _ _ hB wr=>∃ (k:Nat) (l:List (ax×Int×Nat)) (lO:Nat),k≤dV∧hB= .int .i64 (k:Int)∧azR= .int .i64 (W.kd k)∧Hid (∀ j,j<k→W.yi j=true)∧Hid (dE ax.key wr eF l lO)∧Hid (∀ e∈l,e.1.ok)∧Hid ((l.map (·.1)).Nodup)∧Hid (∀ c,dE.get l c=if (W.jE k).contains c=true then some 1 else none)∧Hid (aP wr w.heap.size (ae.cells ⟨eT,gj,gl,fE,eZ,fr,fP,gy,fW,fH⟩ W) 28 (0,0))∧Below w.heap.size w wr) (λ _ _ _ _ _ hB _=>dV - (intOf hB).toNat)
 case atStart=>exact ⟨0, [],0,aSM _,rfl,rfl,CO,TX,(λ e he=>by simp at he),aV5,(λ c=>by simp [dE.get,ae.jE]),FK,agd⟩
 case round =>
  clear CO TX FK agd;obtain ⟨k,l,lO,ar,rfl,rfl,ie,lv,OZ,OR,CM,Hj,mL⟩:=hrel;obtain ⟨bZ,c1,c2,c3,c4,c5,dG,dT,eD⟩:=ae.tO Hj.out;rw [kF.out] at c3;rw [iF.out] at dG;by_cases bz:k<dV
  ·obtain ⟨t,aC⟩:=iM (l:=W.ak) (i:=k) (by rw [iF.out];exact bz);have afU:=aoB.out.keep mL;obtain ⟨b,o,rfl,j1⟩:=aY.at_ afU (by rw [iF.out];omega);obtain ⟨Nl,eM,ft,nh,yl,aOo,aOp⟩:=j1 k t aC;obtain ⟨cQ,sf⟩:∃ cQ,wrap64 (W.kd k+1)=cQ:=⟨_,rfl⟩;have eh:W.yi k=(W.Ng cQ Gq t && !(W.jE k).contains t.spot):=by
    unfold ae.yi;rw [aRU,aC,sf,abw.out];rfl
   unfold ae.Ng at eh;rw [kF.out] at eh;have aha:W.kd (k+1)=t.id:=by
    unfold ae.kd;rw [aR5 (by omega),aRU,aVx,aC];rfl
   have ahE:W.jE (k+1)=W.jE k++ [t.spot]:=by
    unfold ae.jE;rw [aSn (by rw [iF.out];exact bz),aSm];have:W.ak[k]'(by rw [iF.out];exact bz)=t:=by
     rw [aRX (by rw [iF.out];exact bz)] at aC;exact aRV aC
    rw [this];rfl
   have abv:=aRY aha;have abE:=aRY ahE;have cP:=lN wr (.cells #[.int .i64 t.id, .int .i64 t.owner, .int .i64 t.kind, .int .i64 t.spot.x, .int .i64 t.spot.y, .int .i64 t.cD, .int .i64 t.load] 57);have afP:=aP.new wr t.cells 57 (0,0);obtain ⟨aT,Kk⟩:∃ aT,Hid (wr.alloc (.cells #[.int .i64 t.id, .int .i64 t.owner, .int .i64 t.kind, .int .i64 t.spot.x, .int .i64 t.spot.y, .int .i64 t.cD, .int .i64 t.load] 57)=aT):=⟨_,aRY rfl⟩;rw [Kk.out] at cP;have CL:Hid (aP aT wr.heap.size t.cells 57 (0,0)):=by rw [← Kk.out];exact afP
   have Xp:eF<wr.heap.size:=lv.out.lt;have ag3:w.heap.size<eF:=by have:=TY.out;omega
   have p':(k:Int)<(dV:Int):=by omega
   have p9:(0:Int)≤(k:Int):=by omega
   have aK3:(0:Int)≤(kg:Int)∧(kg:Int)≤8:=by omega
   clear afU j1 aC aha ahE afP th;have th:=abw.out;by_cases p_:t.kind=1
   ·have AU:=aRY p_;rw [p_] at ft;clear p_;have Kb:=aRY (λ V:World=>ajg V);have L0:ae.jB 1=10:=rfl;have L2:ae.yf 1=5:=rfl;rw [AU.out,L0,L2] at eh;have lx:=aRY eh;clear L0 L2 eh;have T2:Hid (wr.alloc (.cells #[.int .i64 t.id, .int .i64 t.owner, .int .i64 1, .int .i64 t.spot.x, .int .i64 t.spot.y, .int .i64 t.cD, .int .i64 t.load] 57)=aT):=by rw [← Kk.out,AU.out];rfl
    go_wp2_with fail
    rw [T2.out];refine (Kb.out _).mono ?_;rintro e cB ⟨rfl,bw⟩;have wg:=cP.trans (bw.mono cP.size);have dL:=lN cB (.cells #[.int .i64 10, .int .i64 1, .int .i64 1, .int .i64 5] 61);have Bu:=aP.new cB [.int .i64 10, .int .i64 1, .int .i64 1, .int .i64 5] 61 (0,0);obtain ⟨w3,E4⟩:∃ w3,Hid (cB.alloc (.cells #[.int .i64 10, .int .i64 1, .int .i64 1, .int .i64 5] 61)=w3):=⟨_,aRY rfl⟩;rw [E4.out] at dL;have Bu:aP w3 cB.heap.size [.int .i64 10, .int .i64 1, .int .i64 1, .int .i64 5] 61 (0,0):=by rw [← E4.out];exact Bu
    have BM:w3.cell? ⟨cB.heap.size,0,none⟩=some (.int .i64 10):=Bu.cell 0;have r5:=wg.trans (dL.mono wg.size);have EW:=aRY ((CL.out.later bw).later dL);have Kc:=aRY (lv.out.later r5);have EV:=aRY (Hj.out.later r5);have FV:=mL.trans (r5.mono mL.size);have J':=aRY (abu.out.keep FV);obtain ⟨t0,t1,t2,t3,t4,t5,t6⟩:=aY.fy ((CL.out.later bw));rw [AU.out] at t2;clear bZ c1 c2 c3 c4 c5 dG dT eD;obtain ⟨bZ,c1,c2,c3,c4,c5,dG,dT,eD⟩:=ae.tO (Hj.out.later wg);rw [kF.out] at c3;rw [iF.out] at dG;have agh:wr.heap.size<cB.heap.size:=by have:=bw.size;have:=CL.out.lt;omega
    have agi:w.heap.size<cB.heap.size:=by have:=Xp;omega
    go_wp2_with fail
    rw [E4.out];clear t0 t1 t2 t3 t4 t5 t6 bZ c1 c2 c3 c4 c5 dG dT eD;obtain ⟨t0,t1,t2,t3,t4,t5,t6⟩:=aY.fy EW.out;obtain ⟨bZ,c1,c2,c3,c4,c5,dG,dT,eD⟩:=ae.tO EV.out;rw [kF.out] at c3;rw [iF.out] at dG;rw [AU.out] at t2;clear bw Bu dL wg;cases aG:cN t.id cQ Gq with
    | false =>
     have bV:Hid (W.kO=false):=ae.uV (k:=k) (by rw [iF.out];exact bz) (by rw [lx.out,aG];simp);have AN:=aRY aG;clear aG;refine (pD AN.out _).mono ?_;rintro e w' ⟨rfl,rfl⟩;go_wp2_with fail
     go_ret;exact ⟨iu bV.out.symm,FV⟩
    | true =>
     have AN:=aRY aG;clear aG;refine (pD AN.out _).mono ?_;rintro e w' ⟨rfl,rfl⟩;go_wp2_with fail
     cases κ:cN t.owner 0 ((kg:Int) - 1) with
     | false =>
      have bV:Hid (W.kO=false):=ae.uV (k:=k) (by rw [iF.out];exact bz) (by rw [lx.out,κ];simp);have dy:=aRY κ;clear κ;refine (pD dy.out _).mono ?_;rintro e w' ⟨rfl,rfl⟩;go_wp2_with fail
      go_ret;exact ⟨iu bV.out.symm,FV⟩
     | true =>
      have dy:=aRY κ;clear κ;refine (pD dy.out _).mono ?_;rintro e w' ⟨rfl,rfl⟩;go_wp2_with fail
      cases ab:W.field.ground t.spot with
      | false =>
       have bV:Hid (W.kO=false):=ae.uV (k:=k) (by rw [iF.out];exact bz) (by rw [lx.out,ab];simp);have xh:=aRY ab;clear ab;have lu:=Li W.field t.spot eT fr _ J'.out xf.out;rw [xh.out] at lu;refine lu.mono ?_;rintro e rh ⟨rfl,dz⟩;have FR:=r5.trans (dz.mono r5.size);have xP:=mL.trans (FR.mono mL.size);have EX:=aRY (EW.out.later dz);have Kd:=aRY (Kc.out.later dz);have J_:=aRY (EV.out.later dz);clear t0 t1 t2 t3 t4 t5 t6 bZ c1 c2 c3 c4 c5 dG dT eD lu;obtain ⟨t0,t1,t2,t3,t4,t5,t6⟩:=aY.fy EX.out;have BM:=cell_later dz BM;go_wp2_with fail
       go_ret;exact ⟨iu bV.out.symm,xP⟩
      | true =>
       have xh:=aRY ab;clear ab;have lu:=Li W.field t.spot eT fr _ J'.out xf.out;rw [xh.out] at lu;refine lu.mono ?_;rintro e rh ⟨rfl,dz⟩;have FR:=r5.trans (dz.mono r5.size);have xP:=mL.trans (FR.mono mL.size);have EX:=aRY (EW.out.later dz);have Kd:=aRY (Kc.out.later dz);have J_:=aRY (EV.out.later dz);clear t0 t1 t2 t3 t4 t5 t6 bZ c1 c2 c3 c4 c5 dG dT eD lu;obtain ⟨t0,t1,t2,t3,t4,t5,t6⟩:=aY.fy EX.out;have BM:=cell_later dz BM;go_wp2_with fail
       cases aw:cN t.cD 1 10 with
       | false =>
        have bV:Hid (W.kO=false):=ae.uV (k:=k) (by rw [iF.out];exact bz) (by rw [lx.out,aw];simp);have AO:=aRY aw;clear aw;refine (pD AO.out _).mono ?_;rintro e w' ⟨rfl,rfl⟩;go_wp2_with fail
        go_ret;exact ⟨iu bV.out.symm,xP⟩
       | true =>
        have AO:=aRY aw;clear aw;refine (pD AO.out _).mono ?_;rintro e w' ⟨rfl,rfl⟩;go_wp2_with fail
        cases a6:cN t.load 0 5 with
        | false =>
         have bV:Hid (W.kO=false):=ae.uV (k:=k) (by rw [iF.out];exact bz) (by rw [lx.out,a6];simp);have AP:=aRY a6;clear a6;refine (pD AP.out _).mono ?_;rintro e w' ⟨rfl,rfl⟩;go_wp2_with fail
         go_ret;exact ⟨iu bV.out.symm,xP⟩
        | true =>
         have AP:=aRY a6;clear a6;refine (pD AP.out _).mono ?_;rintro e w' ⟨rfl,rfl⟩;go_wp2_with fail
         have BH:t.spot.ok:=by
          obtain ⟨i1,i2,i3,i4,i5,i6⟩:=aE.idx xf.out (aE.ky xh.out);obtain ⟨g1,g2,g3,g4,_,_⟩:=aE.jY xf.out;exact ⟨bM.2 (by omega),bM.2 (by omega)⟩
         obtain ⟨v,AW⟩:∃ v,Hid ((dE.get l t.spot).getD 0=v):=⟨_,aRY rfl⟩;obtain ⟨st,eu,dU,yA,sz,pQ⟩:=ae9 Kd.out OZ.out OR.out t.spot BH v AW.out;obtain ⟨DF,aZ,DG,f1,DH,F2,Mi,Mj,By⟩:=pQ;have ax3:0≤v∧v≤1:=by
          rw [← AW.out,CM.out];split<;>simp
         have TW:=aRY F2;have Kj:=aRY Mi;have AT:=aRY Mj;have Ig:=(By (Nat.le_of_lt ag3)).1 xP;have AL:=aRY (J_.out.of_heap ((By (B:=0) (a:=rh) (aSM _)).2 _ (by omega)));have yo:yA.cell? ⟨wr.heap.size,3,none⟩=some (.int .i64 t.spot.x):=(Kj.out _ (by simp;omega)).trans t3;have I':yA.cell? ⟨wr.heap.size,4,none⟩=some (.int .i64 t.spot.y):=(Kj.out _ (by simp;omega)).trans t4;have D8:sz.cell? ⟨wr.heap.size,0,none⟩=some (.int .i64 t.id):=(AT.out _ (by simp;omega)).trans t0;have yr:sz.cell? ⟨wr.heap.size,3,none⟩=some (.int .i64 t.spot.x):=(AT.out _ (by simp;omega)).trans t3;have aCj:sz.cell? ⟨wr.heap.size,4,none⟩=some (.int .i64 t.spot.y):=(AT.out _ (by simp;omega)).trans t4;have g1:=DF 1;have g2:=aZ 1;have g3:=DG 1;have g4:=f1 1;have g5:=DH 1;clear F2 Mi Mj By DF aZ DG f1 DH;simp only [aev] at g1 g2 g3 g4 g5;cases r_:(W.jE k).contains t.spot with
         | true =>
          have pg:v=1:=by rw [← AW.out,CM.out,r_];rfl
          subst pg;rw [show (1:Int)+1=2 from rfl] at g4 g5;have bV:Hid (W.kO=false):=ae.uV (k:=k) (by rw [iF.out];exact bz) (by rw [lx.out,r_];simp);clear r_
          go_region
          go_wp2_with fail
          go_ret;exact ⟨iu bV.out.symm,below_drewN Ig 1⟩
         | false =>
          have pg:v=0:=by rw [← AW.out,CM.out,r_];rfl
          subst pg;rw [show (0:Int)+1=1 from rfl] at g4 g5;have pL:Hid (∀ j,j<k+1→W.yi j=true):=by
           intro j az;by_cases g_:j<k
           ·exact ie.out j g_
           ·obtain rfl:j=k:=by omega
            rw [lx.out,AN.out,dy.out,xh.out,AO.out,AP.out,r_];rfl
          have TU:Hid (∀ c,dE.get (dE.put l lO t.spot (0+1)) c=if (W.jE (k+1)).contains c=true then some 1 else none):=by
           intro c;rw [dE.Bs,abE.out,CM.out];by_cases FX:c=t.spot
           ·simp [FX]
           ·rw [aR5 FX];simp [FX]
          have T4:Hid (∀ e∈dE.put l lO t.spot (0+1),e.1.ok):=dE.Yx OZ.out BH;have TV:Hid (((dE.put l lO t.spot (0+1)).map (·.1)).Nodup):=dE.IE OR.out _ _ _;clear r_ BH
          go_region
          go_wp2_with fail
          go_roundw
          case rel=>exact ⟨k+1,_,_,by omega,by go_num,by rw [abv.out],pL,TW.out.drewN 1,T4,TV,TU,AL.out.drewN 1,below_drewN Ig 1⟩
          case measure=>simp [intOf];omega
   ·by_cases iA:t.kind=2
    ·have AU:=aRY iA;rw [iA] at ft;clear p_ iA;have Kb:=aRY (λ V:World=>ajh V);have L0:ae.jB 2=20:=rfl;have L2:ae.yf 2=0:=rfl;rw [AU.out,L0,L2] at eh;have lx:=aRY eh;clear L0 L2 eh;have T2:Hid (wr.alloc (.cells #[.int .i64 t.id, .int .i64 t.owner, .int .i64 2, .int .i64 t.spot.x, .int .i64 t.spot.y, .int .i64 t.cD, .int .i64 t.load] 57)=aT):=by rw [← Kk.out,AU.out];rfl
     go_wp2_with fail
     rw [T2.out];refine (Kb.out _).mono ?_;rintro e cB ⟨rfl,bw⟩;have wg:=cP.trans (bw.mono cP.size);have dL:=lN cB (.cells #[.int .i64 20, .int .i64 2, .int .i64 4, .int .i64 12] 61);have Bu:=aP.new cB [.int .i64 20, .int .i64 2, .int .i64 4, .int .i64 12] 61 (0,0);obtain ⟨w3,E4⟩:∃ w3,Hid (cB.alloc (.cells #[.int .i64 20, .int .i64 2, .int .i64 4, .int .i64 12] 61)=w3):=⟨_,aRY rfl⟩;rw [E4.out] at dL;have Bu:aP w3 cB.heap.size [.int .i64 20, .int .i64 2, .int .i64 4, .int .i64 12] 61 (0,0):=by rw [← E4.out];exact Bu
     have BM:w3.cell? ⟨cB.heap.size,0,none⟩=some (.int .i64 20):=Bu.cell 0;have r5:=wg.trans (dL.mono wg.size);have EW:=aRY ((CL.out.later bw).later dL);have Kc:=aRY (lv.out.later r5);have EV:=aRY (Hj.out.later r5);have FV:=mL.trans (r5.mono mL.size);have J':=aRY (abu.out.keep FV);obtain ⟨t0,t1,t2,t3,t4,t5,t6⟩:=aY.fy ((CL.out.later bw));rw [AU.out] at t2;clear bZ c1 c2 c3 c4 c5 dG dT eD;obtain ⟨bZ,c1,c2,c3,c4,c5,dG,dT,eD⟩:=ae.tO (Hj.out.later wg);rw [kF.out] at c3;rw [iF.out] at dG;have agh:wr.heap.size<cB.heap.size:=by have:=bw.size;have:=CL.out.lt;omega
     have agi:w.heap.size<cB.heap.size:=by have:=Xp;omega
     go_wp2_with fail
     rw [E4.out];clear t0 t1 t2 t3 t4 t5 t6 bZ c1 c2 c3 c4 c5 dG dT eD;obtain ⟨t0,t1,t2,t3,t4,t5,t6⟩:=aY.fy EW.out;obtain ⟨bZ,c1,c2,c3,c4,c5,dG,dT,eD⟩:=ae.tO EV.out;rw [kF.out] at c3;rw [iF.out] at dG;rw [AU.out] at t2;clear bw Bu dL wg;cases aG:cN t.id cQ Gq with
     | false =>
      have bV:Hid (W.kO=false):=ae.uV (k:=k) (by rw [iF.out];exact bz) (by rw [lx.out,aG];simp);have AN:=aRY aG;clear aG;refine (pD AN.out _).mono ?_;rintro e w' ⟨rfl,rfl⟩;go_wp2_with fail
      go_ret;exact ⟨iu bV.out.symm,FV⟩
     | true =>
      have AN:=aRY aG;clear aG;refine (pD AN.out _).mono ?_;rintro e w' ⟨rfl,rfl⟩;go_wp2_with fail
      cases κ:cN t.owner 0 ((kg:Int) - 1) with
      | false =>
       have bV:Hid (W.kO=false):=ae.uV (k:=k) (by rw [iF.out];exact bz) (by rw [lx.out,κ];simp);have dy:=aRY κ;clear κ;refine (pD dy.out _).mono ?_;rintro e w' ⟨rfl,rfl⟩;go_wp2_with fail
       go_ret;exact ⟨iu bV.out.symm,FV⟩
      | true =>
       have dy:=aRY κ;clear κ;refine (pD dy.out _).mono ?_;rintro e w' ⟨rfl,rfl⟩;go_wp2_with fail
       cases ab:W.field.ground t.spot with
       | false =>
        have bV:Hid (W.kO=false):=ae.uV (k:=k) (by rw [iF.out];exact bz) (by rw [lx.out,ab];simp);have xh:=aRY ab;clear ab;have lu:=Li W.field t.spot eT fr _ J'.out xf.out;rw [xh.out] at lu;refine lu.mono ?_;rintro e rh ⟨rfl,dz⟩;have FR:=r5.trans (dz.mono r5.size);have xP:=mL.trans (FR.mono mL.size);have EX:=aRY (EW.out.later dz);have Kd:=aRY (Kc.out.later dz);have J_:=aRY (EV.out.later dz);clear t0 t1 t2 t3 t4 t5 t6 bZ c1 c2 c3 c4 c5 dG dT eD lu;obtain ⟨t0,t1,t2,t3,t4,t5,t6⟩:=aY.fy EX.out;have BM:=cell_later dz BM;go_wp2_with fail
        go_ret;exact ⟨iu bV.out.symm,xP⟩
       | true =>
        have xh:=aRY ab;clear ab;have lu:=Li W.field t.spot eT fr _ J'.out xf.out;rw [xh.out] at lu;refine lu.mono ?_;rintro e rh ⟨rfl,dz⟩;have FR:=r5.trans (dz.mono r5.size);have xP:=mL.trans (FR.mono mL.size);have EX:=aRY (EW.out.later dz);have Kd:=aRY (Kc.out.later dz);have J_:=aRY (EV.out.later dz);clear t0 t1 t2 t3 t4 t5 t6 bZ c1 c2 c3 c4 c5 dG dT eD lu;obtain ⟨t0,t1,t2,t3,t4,t5,t6⟩:=aY.fy EX.out;have BM:=cell_later dz BM;go_wp2_with fail
        cases aw:cN t.cD 1 20 with
        | false =>
         have bV:Hid (W.kO=false):=ae.uV (k:=k) (by rw [iF.out];exact bz) (by rw [lx.out,aw];simp);have AO:=aRY aw;clear aw;refine (pD AO.out _).mono ?_;rintro e w' ⟨rfl,rfl⟩;go_wp2_with fail
         go_ret;exact ⟨iu bV.out.symm,xP⟩
        | true =>
         have AO:=aRY aw;clear aw;refine (pD AO.out _).mono ?_;rintro e w' ⟨rfl,rfl⟩;go_wp2_with fail
         cases a6:cN t.load 0 0 with
         | false =>
          have bV:Hid (W.kO=false):=ae.uV (k:=k) (by rw [iF.out];exact bz) (by rw [lx.out,a6];simp);have AP:=aRY a6;clear a6;refine (pD AP.out _).mono ?_;rintro e w' ⟨rfl,rfl⟩;go_wp2_with fail
          go_ret;exact ⟨iu bV.out.symm,xP⟩
         | true =>
          have AP:=aRY a6;clear a6;refine (pD AP.out _).mono ?_;rintro e w' ⟨rfl,rfl⟩;go_wp2_with fail
          have BH:t.spot.ok:=by
           obtain ⟨i1,i2,i3,i4,i5,i6⟩:=aE.idx xf.out (aE.ky xh.out);obtain ⟨g1,g2,g3,g4,_,_⟩:=aE.jY xf.out;exact ⟨bM.2 (by omega),bM.2 (by omega)⟩
          obtain ⟨v,AW⟩:∃ v,Hid ((dE.get l t.spot).getD 0=v):=⟨_,aRY rfl⟩;obtain ⟨st,eu,dU,yA,sz,pQ⟩:=ae9 Kd.out OZ.out OR.out t.spot BH v AW.out;obtain ⟨DF,aZ,DG,f1,DH,F2,Mi,Mj,By⟩:=pQ;have ax3:0≤v∧v≤1:=by
           rw [← AW.out,CM.out];split<;>simp
          have TW:=aRY F2;have Kj:=aRY Mi;have AT:=aRY Mj;have Ig:=(By (Nat.le_of_lt ag3)).1 xP;have AL:=aRY (J_.out.of_heap ((By (B:=0) (a:=rh) (aSM _)).2 _ (by omega)));have yo:yA.cell? ⟨wr.heap.size,3,none⟩=some (.int .i64 t.spot.x):=(Kj.out _ (by simp;omega)).trans t3;have I':yA.cell? ⟨wr.heap.size,4,none⟩=some (.int .i64 t.spot.y):=(Kj.out _ (by simp;omega)).trans t4;have D8:sz.cell? ⟨wr.heap.size,0,none⟩=some (.int .i64 t.id):=(AT.out _ (by simp;omega)).trans t0;have yr:sz.cell? ⟨wr.heap.size,3,none⟩=some (.int .i64 t.spot.x):=(AT.out _ (by simp;omega)).trans t3;have aCj:sz.cell? ⟨wr.heap.size,4,none⟩=some (.int .i64 t.spot.y):=(AT.out _ (by simp;omega)).trans t4;have g1:=DF 1;have g2:=aZ 1;have g3:=DG 1;have g4:=f1 1;have g5:=DH 1;clear F2 Mi Mj By DF aZ DG f1 DH;simp only [aev] at g1 g2 g3 g4 g5;cases r_:(W.jE k).contains t.spot with
          | true =>
           have pg:v=1:=by rw [← AW.out,CM.out,r_];rfl
           subst pg;rw [show (1:Int)+1=2 from rfl] at g4 g5;have bV:Hid (W.kO=false):=ae.uV (k:=k) (by rw [iF.out];exact bz) (by rw [lx.out,r_];simp);clear r_
           go_region
           go_wp2_with fail
           go_ret;exact ⟨iu bV.out.symm,below_drewN Ig 1⟩
          | false =>
           have pg:v=0:=by rw [← AW.out,CM.out,r_];rfl
           subst pg;rw [show (0:Int)+1=1 from rfl] at g4 g5;have pL:Hid (∀ j,j<k+1→W.yi j=true):=by
            intro j az;by_cases g_:j<k
            ·exact ie.out j g_
            ·obtain rfl:j=k:=by omega
             rw [lx.out,AN.out,dy.out,xh.out,AO.out,AP.out,r_];rfl
           have TU:Hid (∀ c,dE.get (dE.put l lO t.spot (0+1)) c=if (W.jE (k+1)).contains c=true then some 1 else none):=by
            intro c;rw [dE.Bs,abE.out,CM.out];by_cases FX:c=t.spot
            ·simp [FX]
            ·rw [aR5 FX];simp [FX]
           have T4:Hid (∀ e∈dE.put l lO t.spot (0+1),e.1.ok):=dE.Yx OZ.out BH;have TV:Hid (((dE.put l lO t.spot (0+1)).map (·.1)).Nodup):=dE.IE OR.out _ _ _;clear r_ BH
           go_region
           go_wp2_with fail
           go_roundw
           case rel=>exact ⟨k+1,_,_,by omega,by go_num,by rw [abv.out],pL,TW.out.drewN 1,T4,TV,TU,AL.out.drewN 1,below_drewN Ig 1⟩
           case measure=>simp [intOf];omega
    ·have Xi:cN t.kind 1 2=false:=qc (by omega);have bV:Hid (W.kO=false):=ae.uV (k:=k) (by rw [iF.out];exact bz) (by rw [eh,Xi];rfl);have Kb:=aRY (λ V:World=>aji t.kind V Xi);have agw:(t.kind == 1)=false:=by simpa using p_
     clear eh Xi p_ iA;go_wp2_with fail
     rw [Kk.out];refine (Kb.out _).mono ?_;rintro e cB ⟨rfl,bw⟩;have wg:=cP.trans (bw.mono cP.size);obtain ⟨t0,t1,t2,t3,t4,t5,t6⟩:=aY.fy ((CL.out.later bw));clear bZ c1 c2 c3 c4 c5 dG dT eD;obtain ⟨bZ,c1,c2,c3,c4,c5,dG,dT,eD⟩:=ae.tO (Hj.out.later wg);have agh:wr.heap.size<cB.heap.size:=by have:=bw.size;have:=CL.out.lt;omega
     have agi:w.heap.size<cB.heap.size:=by have:=Xp;omega
     go_wp2_with fail
     go_ret;exact ⟨iu bV.out.symm,(mL.trans (wg.mono mL.size)).trans ((lN _ _).mono (by omega))⟩
  ·obtain rfl:k=dV:=by omega
   have dK:∀ j,j<W.ak.length→W.yi j=true:=λ j az=>ie.out j (by rw [iF.out] at az;exact az);have qb:W.kO=(cN W.next 1 1000000 && cN W.now 0 1000000):=by
    unfold ae.kO;rw [aSO.2 (λ j az=>dK j (aSC.1 az)),aUS]
   have AV:=aRY qb;clear dK qb th;cases κ:cN W.next 1 1000000 with
   | false =>
    have H1:=aRY κ;clear κ;go_wp2_with fail
    refine (pD H1.out _).mono ?_;rintro e w' ⟨rfl,rfl⟩;go_wp2_with fail
    go_ret;exact ⟨iu (by rw [AV.out,H1.out];rfl),mL⟩
   | true =>
    have F1:=λ V=>S' W.now 0 1000000 V;have H1:=aRY κ;rw [H1.out,aUS] at AV;clear κ;generalize cN W.now 0 1000000=r2 at *
    go_wp2_with fail
    refine (pD H1.out _).mono ?_;rintro e w' ⟨rfl,rfl⟩;go_wp2_with fail
    refine (F1 _).mono ?_;rintro e w' ⟨rfl,rfl⟩;go_wp2_with fail
    go_ret;exact ⟨iu AV.out.symm,mL⟩
end
end Go.Proofs.YtmeeljmapailnaaGreat
