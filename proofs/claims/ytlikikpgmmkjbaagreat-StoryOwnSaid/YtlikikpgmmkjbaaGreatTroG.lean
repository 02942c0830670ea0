import Derived.Test.YtlikikpgmmkjbaaGreatPtq
set_option linter.unusedVariables false
set_option linter.unusedSimpArgs false
set_option maxRecDepth 100000
set_option maxHeartbeats 4000000
namespace Go.Proofs.YtlikikpgmmkjbaaGreat
open Tryz
section
open Go.RowKit
theorem arp (a:ae.b6) (W:ae) (w:World) (bs:ae.Has w a W) (aE:W.field.bh=0) (fu:W.aY.length≤8):
    Calls prog 89 #[.agg (ae.cells a W).toArray] w λ e w'=>e= .returned (.bool W.mn)∧Below w.heap.size w w':=by
  obtain ⟨d',fa,fb,eE,ee,en,eR,fg,eX,eK⟩:=a;show Calls _ _ #[.agg #[.int .i64 W.field.wide, .int .i64 W.field.high, .slice d' W.field.aP.length en, .slice fa W.aY.length eR, .slice fb W.a_.length fg, .slice eE W.bm.length eX, .slice ee W.ag.length eK, .int .i64 W.next, .int .i64 W.now]] _ _;obtain ⟨jn,iO⟩:∃ n,Hid (W.aY.length=n):=⟨_,Lib.hid rfl⟩;obtain ⟨ns,wJ⟩:∃ n,Hid (W.a_.length=n):=⟨_,Lib.hid rfl⟩;have fu:jn≤8:=by rw [← iO.out];exact fu
  have cr:=jR w (.cells (ae.cells ⟨d',fa,fb,eE,ee,en,eR,fg,eX,eK⟩ W).toArray 28);have hP:=Lib.hid (aK.new w (ae.cells ⟨d',fa,fb,eE,ee,en,eR,fg,eX,eK⟩ W) 28 (0,0));have kO:=Lib.hid (bs.keep cr);have sX:=Lib.hid aE;obtain ⟨w0,hT⟩:∃ w0,Hid (w.alloc (.cells (ae.cells ⟨d',fa,fb,eE,ee,en,eR,fg,eX,eK⟩ W).toArray 28)=w0):=⟨_,Lib.hid rfl⟩;rw [hT.out] at cr kO;have hP:Hid (aK w0 w.heap.size (ae.cells ⟨d',fa,fb,eE,ee,en,eR,fg,eX,eK⟩ W) 28 (0,0)):=by rw [← hT.out];exact hP
  have nz:Hid (w.alloc (.cells #[.int .i64 W.field.wide, .int .i64 W.field.high, .slice d' W.field.aP.length en, .slice fa jn eR, .slice fb ns fg, .slice eE W.bm.length eX, .slice ee W.ag.length eK, .int .i64 W.next, .int .i64 W.now] 28)=w0):=by rw [← hT.out,← iO.out,← wJ.out];rfl
  obtain ⟨bL,c1,c2,c3,c4,c5,c',dT,dS⟩:=ae.qt hP.out;rw [iO.out] at c3;rw [wJ.out] at c4;clear bs aE;by_cases hlen:ns=jn
  · subst hlen
    have yf:Hid (∀ j,j<0→W.uv j=true):=Lib.hid λ j ay=>absurd ay (by omega);go_enter func89,ntmps89;rw [iO.out,wJ.out];go_wp2_with fail
    rw [nz.out];go_loopw [3,4,15] (λ _ _ fW wr=>∃ k:Nat,k≤ns∧fW= .int .i64 (k:Int)∧Hid (∀ j,j<k→W.uv j=true)∧Below w0.heap.size w0 wr) (λ _ _ fW _=>ns - (intOf fW).toNat)
    case atStart=>exact ⟨0,Nat.zero_le _,rfl,yf,Below.refl _ _⟩
    case round =>
      clear yf bL c1 c2 c3 c4 c5 c' dT dS;obtain ⟨k,av,rfl,gA,Φ⟩:=hrel;by_cases bl:k<ns
      · obtain ⟨p,hp⟩:=gg (l:=W.aY) (i:=k) (by rw [iO.out];exact bl)
        obtain ⟨st,hs⟩:=gg (l:=W.a_) (i:=k) (by rw [wJ.out];exact bl);have Kv:=kO.out.keep Φ;have X9:=hP.out.later Φ;have Ku:ar.rep.aH 16 wr fa eR W.aY:=Kv.B;have Gd:bz.aH 8 wr d' en W.field.aP:=Kv.P;have Yf:bz.aH 8 wr fb fg W.a_:=Kv.S;have Gs:(ns:Int)≤(eR:Int):=by have:=Ku.1;rw [iO.out] at this;omega
        obtain ⟨b,o,rfl,h5⟩:=ar.at_ Ku (by rw [iO.out];omega);obtain ⟨HK,dY⟩:=h5 k p hp;obtain ⟨cH,os,rfl,YF⟩:=B1 Yf (by rw [wJ.out];omega);have R5:=YF k st hs;obtain ⟨bL,c1,c2,c3,c4,c5,c',dT,dS⟩:=ae.qt X9;rw [iO.out] at c3;rw [wJ.out] at c4;have cV:W.uv k=(W.field.ground p && !(W.aY.take k).contains p && cw st 0 1000000):=by
          unfold ae.uv;rw [List.getD_eq_getElem?_getD,hp,List.getD_eq_getElem?_getD,hs];rfl
        have cF:=jR wr (.cells #[.int .i64 p.x, .int .i64 p.y] 49);have Kt:=aK.new wr p.cells 49 (0,0);obtain ⟨aM,Nh⟩:∃ aM,Hid (wr.alloc (.cells #[.int .i64 p.x, .int .i64 p.y] 49)=aM):=⟨_,Lib.hid rfl⟩;rw [Nh.out] at cF;have Kt:aK aM wr.heap.size p.cells 49 (0,0):=by rw [← Nh.out];exact Kt
        obtain ⟨zG,r1⟩:=ar.eu Kt;have jx:=Lib.hid (λ (V:World) (h:Below aM.heap.size aM V)=>Ga W.field p d' en V ((Gd.keep cF).keep h) sX.out);have wE:=Lib.hid (λ (V:World) (h:Below aM.heap.size aM V)=>al7 p (some ⟨b,o,none⟩) eR (W.aY.take k) V (((Ku.Et k).keep cF).keep h));have hE:(W.aY.take k).length=k:=by rw [List.length_take,iO.out];omega
        rw [hE] at wE;have kx:=Lib.hid (λ (V:World)=>Mx st 0 1000000 V);have jz:=Lib.hid cV;have yZ:=Below.refl aM.heap.size aM;have yY:=Φ.trans (cF.mono Φ.size);have nO:(k:Int)<(ns:Int):=by omega
        have xl:(0:Int)≤(k:Int):=by omega
        have KO:(k:Int)≤(eR:Int):=by omega
        have Qj:k≤eR:=by omega
        clear Kv X9 h5 YF hp hs cV hE Ku Gd Yf;go_wp2_with fail
        rw [Nh.out];have bL:=cell_later cF bL;have c1:=cell_later cF c1;have c2:=cell_later cF c2;have c3:=cell_later cF c3;have c4:=cell_later cF c4;have R5:=cell_later cF R5;have er:=Lib.hid (λ (kq:World) (h:Below aM.heap.size aM kq)=>(⟨trivial,cell_later h bL,cell_later h c1,cell_later h c2,cell_later h c3,cell_later h c4,cell_later h zG,cell_later h r1,cell_later h R5⟩:True∧kq.cell? ⟨w.heap.size,0,none⟩=some (.int .i64 W.field.wide)∧kq.cell? ⟨w.heap.size,1,none⟩=some (.int .i64 W.field.high)∧kq.cell? ⟨w.heap.size,2,none⟩=some (.slice d' W.field.aP.length en)∧kq.cell? ⟨w.heap.size,3,none⟩=some (.slice (some ⟨b,o,none⟩) ns eR)∧kq.cell? ⟨w.heap.size,4,none⟩=some (.slice (some ⟨cH,os,none⟩) ns fg)∧kq.cell? ⟨wr.heap.size,0,none⟩=some (.int .i64 p.x)∧kq.cell? ⟨wr.heap.size,1,none⟩=some (.int .i64 p.y)∧kq.cell? ⟨cH,os+k,none⟩=some (.int .i64 st)));clear HK dY c5 c' dT dS Kt;cases γ:W.field.ground p with
        | false =>
          rw [γ] at jx;have bI:Hid (W.mn=false):=ae.RE (k:=k) (by rw [iO.out];exact bl) (by rw [jz.out,γ];rfl);clear γ;refine MA (by kernel_rfl) (by kernel_rfl) ?_;repeat (first
            | go_big_quiet_skip
            | (go_big_quiet_want
               first
               | (go_big_quiet_op;go_big_quiet_on)
               | (apply Exists.intro
                  refine ⟨λ Cf I=> ?_, ?_⟩
                  · first
                    | (obtain ⟨_,RL,RM,RN,RO,RP,RQ,RR,RS⟩:=er.out Cf I
                       apply LV
                       · (go_simp;rfl)
                       · rfl)
                    | (apply LU
                       · (go_simp;rfl)
                       · rfl
                       · first
                         | (with_reducible refine (jx.out _ I).mono ?_;rintro e cl ⟨rfl,bo⟩;exact ⟨rfl,l0 I bo⟩)
                         | (with_reducible refine (wE.out _ I).mono ?_;rintro e cl ⟨rfl,bo⟩;exact ⟨rfl,l0 I bo⟩)
                         | (with_reducible refine (kx.out _).mono ?_;rintro e cl ⟨rfl,rfl⟩;exact ⟨rfl,I⟩)
                       )
                  go_big_quiet_on
                  simp only [Act.put,List.setIfInBounds_toArray,List.set_cons_zero,List.set_cons_succ])))
          refine wpQuiet_nil ?_;intro x2 bw;go_wp2_with fail
          go_ret;exact ⟨gD bI.out.symm,cr.trans ((yY.trans (Below.mono bw yY.size)).mono cr.size)⟩
        | true =>
          rw [γ] at jx;cases aa:(W.aY.take k).contains p with
          | true =>
            rw [aa] at wE;have bI:Hid (W.mn=false):=ae.RE (k:=k) (by rw [iO.out];exact bl) (by rw [jz.out,γ,aa];rfl);clear γ aa;refine MA (by kernel_rfl) (by kernel_rfl) ?_;repeat (first
              | go_big_quiet_skip
              | (go_big_quiet_want
                 first
                 | (go_big_quiet_op;go_big_quiet_on)
                 | (apply Exists.intro
                    refine ⟨λ Cf I=> ?_, ?_⟩
                    · first
                      | (obtain ⟨_,RL,RM,RN,RO,RP,RQ,RR,RS⟩:=er.out Cf I
                         apply LV
                         · (go_simp;rfl)
                         · rfl)
                      | (apply LU
                         · (go_simp;rfl)
                         · rfl
                         · first
                           | (with_reducible refine (jx.out _ I).mono ?_;rintro e cl ⟨rfl,bo⟩;exact ⟨rfl,l0 I bo⟩)
                           | (with_reducible refine (wE.out _ I).mono ?_;rintro e cl ⟨rfl,bo⟩;exact ⟨rfl,l0 I bo⟩)
                           | (with_reducible refine (kx.out _).mono ?_;rintro e cl ⟨rfl,rfl⟩;exact ⟨rfl,I⟩)
                         )
                    go_big_quiet_on
                    simp only [Act.put,List.setIfInBounds_toArray,List.set_cons_zero,List.set_cons_succ])))
            refine wpQuiet_nil ?_;intro x2 bw;go_wp2_with fail
            go_ret;exact ⟨gD bI.out.symm,cr.trans ((yY.trans (Below.mono bw yY.size)).mono cr.size)⟩
          | false =>
            rw [aa] at wE;cases au:cw st 0 1000000 with
            | false =>
              rw [au] at kx;have bI:Hid (W.mn=false):=ae.RE (k:=k) (by rw [iO.out];exact bl) (by rw [jz.out,au,Bool.and_false]);clear γ aa au;refine MA (by kernel_rfl) (by kernel_rfl) ?_;repeat (first
                | go_big_quiet_skip
                | (go_big_quiet_want
                   first
                   | (go_big_quiet_op;go_big_quiet_on)
                   | (apply Exists.intro
                      refine ⟨λ Cf I=> ?_, ?_⟩
                      · first
                        | (obtain ⟨_,RL,RM,RN,RO,RP,RQ,RR,RS⟩:=er.out Cf I
                           apply LV
                           · (go_simp;rfl)
                           · rfl)
                        | (apply LU
                           · (go_simp;rfl)
                           · rfl
                           · first
                             | (with_reducible refine (jx.out _ I).mono ?_;rintro e cl ⟨rfl,bo⟩;exact ⟨rfl,l0 I bo⟩)
                             | (with_reducible refine (wE.out _ I).mono ?_;rintro e cl ⟨rfl,bo⟩;exact ⟨rfl,l0 I bo⟩)
                             | (with_reducible refine (kx.out _).mono ?_;rintro e cl ⟨rfl,rfl⟩;exact ⟨rfl,I⟩)
                           )
                      go_big_quiet_on
                      simp only [Act.put,List.setIfInBounds_toArray,List.set_cons_zero,List.set_cons_succ])))
              refine wpQuiet_nil ?_;intro x2 bw;go_wp2_with fail
              go_ret;exact ⟨gD bI.out.symm,cr.trans ((yY.trans (Below.mono bw yY.size)).mono cr.size)⟩
            | true =>
              rw [au] at kx;have ny:Hid (∀ j,j<k+1→W.uv j=true):=by
                intro j ay;by_cases gx:j<k
                · exact gA.out j gx
                · obtain rfl:j=k:=by omega
                  rw [jz.out,γ,aa,au];rfl
              clear γ aa au;refine MA (by kernel_rfl) (by kernel_rfl) ?_;repeat (first
                | go_big_quiet_skip
                | (go_big_quiet_want
                   first
                   | (go_big_quiet_op;go_big_quiet_on)
                   | (apply Exists.intro
                      refine ⟨λ Cf I=> ?_, ?_⟩
                      · first
                        | (obtain ⟨_,RL,RM,RN,RO,RP,RQ,RR,RS⟩:=er.out Cf I
                           apply LV
                           · (go_simp;rfl)
                           · rfl)
                        | (apply LU
                           · (go_simp;rfl)
                           · rfl
                           · first
                             | (with_reducible refine (jx.out _ I).mono ?_;rintro e cl ⟨rfl,bo⟩;exact ⟨rfl,l0 I bo⟩)
                             | (with_reducible refine (wE.out _ I).mono ?_;rintro e cl ⟨rfl,bo⟩;exact ⟨rfl,l0 I bo⟩)
                             | (with_reducible refine (kx.out _).mono ?_;rintro e cl ⟨rfl,rfl⟩;exact ⟨rfl,I⟩)
                           )
                      go_big_quiet_on
                      simp only [Act.put,List.setIfInBounds_toArray,List.set_cons_zero,List.set_cons_succ])))
              refine wpQuiet_nil ?_;intro x2 bw;go_wp2_with fail
              go_roundw
              case rel=>exact ⟨k+1,by omega,by go_num,ny,yY.trans (Below.mono bw yY.size)⟩
              case measure=>simp [intOf];omega
      · have oR:Hid (W.mn=true):=ae.abU (by rw [wJ.out,iO.out]) λ j ay=>gA.out j (by rw [iO.out] at ay;omega)
        clear gA;go_wp2_with fail
        go_ret;exact ⟨gD oR.out.symm,cr.trans (Φ.mono cr.size)⟩
  · have oR:Hid (W.mn=false):=ae.arq (by rw [wJ.out,iO.out];exact hlen)
    have hd:((ns:Int) != (jn:Int))=true:=by simp;omega
    rw [oR.out];go_enter func89,ntmps89;rw [iO.out,wJ.out];go_wp2_with fail
    go_ret;rw [nz.out];exact ⟨Z,cr⟩
end
section
open Go.RowKit
theorem ap5 (a:ae.b6) (W:ae) (w:World) (bs:ae.Has w a W):
  Calls prog 90 #[.agg (ae.cells a W).toArray] w λ e w'=>e= .returned (.bool W.na)∧Below w.heap.size w w':=by
 obtain ⟨d',fa,fb,eE,ee,en,eR,fg,eX,eK⟩:=a;show Calls _ _ #[.agg #[.int .i64 W.field.wide, .int .i64 W.field.high, .slice d' W.field.aP.length en, .slice fa W.aY.length eR, .slice fb W.a_.length fg, .slice eE W.bm.length eX, .slice ee W.ag.length eK, .int .i64 W.next, .int .i64 W.now]] _ _;have cr:=jR w (.cells (ae.cells ⟨d',fa,fb,eE,ee,en,eR,fg,eX,eK⟩ W).toArray 28);have hP:=Lib.hid (aK.new w (ae.cells ⟨d',fa,fb,eE,ee,en,eR,fg,eX,eK⟩ W) 28 (0,0));have kO:=Lib.hid (bs.keep cr);obtain ⟨w0,hT⟩:∃ w0,Hid (w.alloc (.cells (ae.cells ⟨d',fa,fb,eE,ee,en,eR,fg,eX,eK⟩ W).toArray 28)=w0):=⟨_,Lib.hid rfl⟩;rw [hT.out] at cr kO;have hP:Hid (aK w0 w.heap.size (ae.cells ⟨d',fa,fb,eE,ee,en,eR,fg,eX,eK⟩ W) 28 (0,0)):=by rw [← hT.out];exact hP
 obtain ⟨nm,qK⟩:∃ n,Hid (W.bm.length=n):=⟨_,Lib.hid rfl⟩;obtain ⟨HD,wI⟩:∃ n,Hid (W.field.aP.length=n):=⟨_,Lib.hid rfl⟩;have hle:nm≤9223372036854775807:=by have:=bs.M.ez;rw [qK.out] at this;exact this
 have nz:Hid (w.alloc (.cells #[.int .i64 W.field.wide, .int .i64 W.field.high, .slice d' HD en, .slice fa W.aY.length eR, .slice fb W.a_.length fg, .slice eE nm eX, .slice ee W.ag.length eK, .int .i64 W.next, .int .i64 W.now] 28)=w0):=by rw [← hT.out,← qK.out,← wI.out];rfl
 obtain ⟨bL,c1,c2,c3,c4,c5,c',dT,dS⟩:=ae.qt hP.out;rw [wI.out] at c2;rw [qK.out] at c5;clear bs;by_cases hlen:nm=HD
 ·subst hlen;have yf:Hid (∀ j,j<0→W.uw j=true):=Lib.hid λ j ay=>absurd ay (by omega);go_enter func90,ntmps90;rw [wI.out,qK.out];go_wp2_with fail
  rw [nz.out];go_loopw [3,4,16] (λ _ _ fW wr=>∃ k:Nat,k≤nm∧fW= .int .i64 (k:Int)∧Hid (∀ j,j<k→W.uw j=true)∧Hid (wr=w0)) (λ _ _ fW _=>nm - (intOf fW).toNat)
  case atStart=>exact ⟨0,Nat.zero_le _,rfl,yf,rfl⟩
  case round =>
   clear yf bL c1 c2 c3 c4 c5 c' dT dS;obtain ⟨k,av,rfl,gA,CS⟩:=hrel;obtain ⟨bL,c1,c2,c3,c4,c5,c',dT,dS⟩:=ae.qt (show aK wr w.heap.size (ae.cells ⟨d',fa,fb,eE,ee,en,eR,fg,eX,eK⟩ W) 28 (0,0) by rw [CS.out];exact hP.out);rw [wI.out] at c2;rw [qK.out] at c5;have kE:Below w.heap.size w wr:=by rw [CS.out];exact cr
   by_cases bl:k<nm
   ·obtain ⟨p,hp⟩:=gg (l:=W.field.aP) (i:=k) (by rw [wI.out];exact bl);obtain ⟨m,hm⟩:=gg (l:=W.bm) (i:=k) (by rw [qK.out];exact bl);have Gd:bz.aH 8 wr d' en W.field.aP:=by rw [CS.out];exact kO.out.P
    have Ye:bz.aH 8 wr eE eX W.bm:=by rw [CS.out];exact kO.out.M
    obtain ⟨b,o,rfl,h5⟩:=B1 Gd (by rw [wI.out];omega);have HK:=h5 k p hp;obtain ⟨ayz,aDz,rfl,YE⟩:=B1 Ye (by rw [qK.out];omega);have m0:=YE k m hm;have cV:W.uw k=(cw m 0 1000000 && (decide (m≤0) || p == 3)):=by
     unfold ae.uw;rw [List.getD_eq_getElem?_getD,hm,List.getD_eq_getElem?_getD,hp];rfl
    have kx:=Lib.hid (λ (V:World)=>Mx m 0 1000000 V);have jz:=Lib.hid cV;have nO:(k:Int)<(nm:Int):=by omega
    have xl:(0:Int)≤(k:Int):=by omega
    clear Gd Ye h5 YE hp hm cV;cases γ:cw m 0 1000000 with
    | false =>
     rw [γ] at kx;have bI:Hid (W.na=false):=ae.abu (k:=k) (by rw [qK.out];exact bl) (by rw [jz.out,γ];rfl);clear γ;go_wp2_with fail
     refine (kx.out _).mono ?_;rintro e w' ⟨rfl,rfl⟩;go_wp2_with fail
     go_ret;exact ⟨gD bI.out.symm,kE⟩
    | true =>
     rw [γ] at kx;by_cases aa:m≤0
     ·have hd:decide (0<m)=false:=by simp;omega
      have ny:Hid (∀ j,j<k+1→W.uw j=true):=by
       intro j ay;by_cases gx:j<k
       ·exact gA.out j gx
       ·obtain rfl:j=k:=by omega
        rw [jz.out,γ,decide_eq_true aa];rfl
      clear γ;go_wp2_with fail
      refine (kx.out _).mono ?_;rintro e w' ⟨rfl,rfl⟩;go_wp2_with fail
      go_roundw
      case rel=>exact ⟨k+1,by omega,by go_num,ny,CS⟩
      case measure=>simp [intOf];omega
     ·have hd:decide (0<m)=true:=by simp;omega
      by_cases au:p=3
      ·subst au;have ny:Hid (∀ j,j<k+1→W.uw j=true):=by
        intro j ay;by_cases gx:j<k
        ·exact gA.out j gx
        ·obtain rfl:j=k:=by omega
         rw [jz.out,γ];simp
       clear γ aa;go_wp2_with fail
       refine (kx.out _).mono ?_;rintro e w' ⟨rfl,rfl⟩;go_wp2_with fail
       go_roundw
       case rel=>exact ⟨k+1,by omega,by go_num,ny,CS⟩
       case measure=>simp [intOf];omega
      ·have bI:Hid (W.na=false):=ae.abu (k:=k) (by rw [qK.out];exact bl) (by rw [jz.out,decide_eq_false aa,beq_false_of_ne au];simp);have DD:(p == 3)=false:=by simpa using au
       clear γ aa au;go_wp2_with fail
       refine (kx.out _).mono ?_;rintro e w' ⟨rfl,rfl⟩;go_wp2_with fail
       go_ret;exact ⟨gD bI.out.symm,kE⟩
   ·have oR:Hid (W.na=true):=ae.abv (by rw [qK.out,wI.out]) λ j ay=>gA.out j (by rw [qK.out] at ay;omega);clear gA;go_wp2_with fail
    go_ret;exact ⟨gD oR.out.symm,kE⟩
 ·have oR:Hid (W.na=false):=ae.ap6 (by rw [qK.out,wI.out];exact hlen);have hd:((nm:Int) != (HD:Int))=true:=by simp;omega
  rw [oR.out];go_enter func90,ntmps90;rw [wI.out,qK.out];go_wp2_with fail
  go_ret;rw [nz.out];exact ⟨Z,cr⟩
end
section
open Go.RowKit
theorem ni {n lo ao:Int} {b:Bool} (h:cw n lo ao=b) (w:World):Calls prog 127 #[.int .i64 n, .int .i64 lo, .int .i64 ao] w λ e w'=>e= .returned (.bool b)∧w=w':=by
 have:=Mx n lo ao w;rw [h] at this;exact this
theorem c7.drewN {fi:Type} {key:fi→Value} {w:World} {b:Nat} {l:List (fi×Int×Nat)} {clock:Nat} (h:c7 key w b l clock) (n:Nat):c7 key (w.drewN n) b l clock:=⟨h.eu,h.born,h.stamps⟩
theorem WZ (w:World):w.drewN 1=w.drew:=rfl
theorem aK.of_heap {w w':World} {g:Nat} {cur:List Value} {e:TypeId} {ax:Nat×Nat} (h:aK w g cur e ax) (ey:w'.heap[g]? =w.heap[g]?):aK w' g cur e ax:=ey.trans h
theorem Xw {w:World} {b:Nat} {l:List (ar×Int×Nat)} {jU:Nat} (h:c7 ar.key w b l jU) (hw:∀ e∈l,e.1.ok) (hn:(l.map (·.1)).Nodup) (x:ar) (hx:x.ok) (v:Int) (hv:(c7.get l x).getD 0=v):
  ∃ (st:Nat) (dL:List (ar×Int×Nat)) (c1:Nat) (uI pG:World),
   (∀ n,(Instr.lookup 205 (.map (some b)) (.agg #[.int .i64 x.x, .int .i64 x.y]) false).run prog (w.drewN n)= .ok (.int .i64 v) (w.drewN n))∧
   (∀ n,(Instr.mapEntry 205 (.map (some b)) (.agg #[.int .i64 x.x, .int .i64 x.y])).run prog (w.drewN n)= .ok (.tuple #[.int .i64 v, .int .i64 (st:Int)]) (uI.drewN n))∧
   (∀ n,(Instr.lookup 205 (.map (some b)) (.agg #[.int .i64 x.x, .int .i64 x.y]) false).run prog (uI.drewN n)= .ok (.int .i64 v) (uI.drewN n))∧
   (∀ n,(Instr.entryStore 205 (.map (some b)) (.int .i64 (st:Int)) (.int .i64 (v+1))).run prog (uI.drewN n)= .ok () (pG.drewN n))∧
   (∀ n,(Instr.lookup 205 (.map (some b)) (.agg #[.int .i64 x.x, .int .i64 x.y]) false).run prog (pG.drewN n)= .ok (.int .i64 (v+1)) (pG.drewN n))∧
   c7 ar.key pG b (c7.put l jU x (v+1)) (c7.tick l jU x)∧
   (∀ p:Addr,p.block≠b→uI.cell? p=w.cell? p)∧(∀ p:Addr,p.block≠b→pG.cell? p=w.cell? p)∧
   ∀ {B:Nat} {a:World},B≤b→(Below B a w→Below B a pG)∧(∀ g,g≠b→pG.heap[g]? =w.heap[g]?):=by
 obtain ⟨st,dL,dk,aU,bc,cy,jd,FP,FQ⟩:=c7.entry ar.vD underlying205 zeroValue3 h hw hn x hx;have y9:=λ n=>(c7.lookup (w:=w.drewN n) ar.vD underlying205 (zeroValue3 _) (h.drewN n) hw hn x hx).1;have y_:=λ n=>(c7.lookup (w:=(hj w b (dL.map (dc ar.key)).toArray dk).drewN n) ar.vD underlying205 (zeroValue3 _) (bc.drewN n) cy jd x hx).1;have hp:=(FQ (v+1) 0).2;have za:=λ n=>(c7.lookup (w:=(hj w b ((c7.put l jU x (v+1)).map (dc ar.key)).toArray (c7.tick l jU x)).drewN n) ar.vD underlying205 (zeroValue3 _) (hp.drewN n) (c7.Ri hw hx) (c7.DU hn jU x (v+1)) x hx).1;simp only [FP,hv,Option.getD_some] at y9 y_ aU;simp only [c7.w9,if_pos,Option.getD_some] at za;exact ⟨st,dL,dk,_,_,y9,aU,y_,λ n=>(FQ (v+1) n).1,za,hp,λ p hp=>World.cell?_of_block (HR hp),λ p hp=>World.cell?_of_block (HR hp),
  fun {B a} aX=>⟨λ Φ=>as0 Φ aX,λ g aO=>HR aO⟩⟩
theorem atU (a:ae.b6) (W:ae) (w:World) (bs:ae.Has w a W) (aE:W.field.bh=0) (fu:W.aY.length≤8) (tF:W.ag.length≤100):
  Calls prog 91 #[.agg (ae.cells a W).toArray] w λ e w'=>e= .returned (.bool W.iV)∧Below w.heap.size w w':=by
 obtain ⟨d',fa,fb,eE,ee,en,eR,fg,eX,eK⟩:=a;show Calls _ _ #[.agg #[.int .i64 W.field.wide, .int .i64 W.field.high, .slice d' W.field.aP.length en, .slice fa W.aY.length eR, .slice fb W.a_.length fg, .slice eE W.bm.length eX, .slice ee W.ag.length eK, .int .i64 W.next, .int .i64 W.now]] _ _;have cr:=jR w (.cells (ae.cells ⟨d',fa,fb,eE,ee,en,eR,fg,eX,eK⟩ W).toArray 28);have hP:=Lib.hid (aK.new w (ae.cells ⟨d',fa,fb,eE,ee,en,eR,fg,eX,eK⟩ W) 28 (0,0));have kO:=Lib.hid (bs.keep cr);obtain ⟨w0,hT⟩:∃ w0,Hid (w.alloc (.cells (ae.cells ⟨d',fa,fb,eE,ee,en,eR,fg,eX,eK⟩ W).toArray 28)=w0):=⟨_,Lib.hid rfl⟩;rw [hT.out] at cr kO;have hP:Hid (aK w0 w.heap.size (ae.cells ⟨d',fa,fb,eE,ee,en,eR,fg,eX,eK⟩ W) 28 (0,0)):=by rw [← hT.out];exact hP
 obtain ⟨eo,gN⟩:∃ n,Hid (W.ag.length=n):=⟨_,Lib.hid rfl⟩;obtain ⟨jn,iO⟩:∃ n,Hid (W.aY.length=n):=⟨_,Lib.hid rfl⟩;have fu:jn≤8:=by rw [← iO.out];exact fu
 have tF:eo≤100:=by rw [← gN.out];exact tF
 have sX:=Lib.hid aE;have yg:=Lib.hid bs;obtain ⟨qf,sg⟩:∃ qf,wrap64 (W.next - 1)=qf:=⟨_,rfl⟩;have Uo:=Lib.hid sg;have nz:Hid (w.alloc (.cells #[.int .i64 W.field.wide, .int .i64 W.field.high, .slice d' W.field.aP.length en, .slice fa jn eR, .slice fb W.a_.length fg, .slice eE W.bm.length eX, .slice ee eo eK, .int .i64 W.next, .int .i64 W.now] 28)=w0):=by rw [← hT.out,← iO.out,← gN.out];rfl
 obtain ⟨bL,c1,c2,c3,c4,c5,c',dT,dS⟩:=ae.qt hP.out;rw [iO.out] at c3;rw [gN.out] at c';clear bs aE;have KX:=@run_makeMap prog;have KV:=c7.made (key:=ar.key) w0;have PZ:=jR w0 (.map #[] 0);obtain ⟨ad8,Uy⟩:∃ ad8,Hid (w0.alloc (.map #[] 0)=ad8):=⟨_,Lib.hid rfl⟩;rw [Uy.out] at KV PZ;have hH:w0.heap.size=w.heap.size+1:=by rw [← hT.out];simp
 rw [hH] at KV;have Na:=Lib.hid KV;have yf:Hid (∀ j,j<0→W.ux j=true):=Lib.hid λ j ay=>absurd ay (by omega);clear KV;go_enter func91,ntmps91;rw [iO.out,gN.out];go_wp2_with fail
 rw [nz.out,Uy.out];have Um:Hid (bz.aH 8 w d' en W.field.aP):=Lib.hid yg.out.P;have afp:Hid (aW.rep.aH 56 w ee eK W.ag):=Lib.hid yg.out.T;have az6:=tF;have Ba:=hP.out.later PZ;have Yt:=cr.trans (PZ.mono cr.size);clear bL c1 c2 c3 c4 c5 c' dT dS KX;obtain ⟨Hz,Nb⟩:∃ Hz,Hid (w.heap.size+1=Hz):=⟨_,Lib.hid rfl⟩;rw [Nb.out];rw [Nb.out] at Na;go_loopw [3,6,7,8,9,14] (λ apL _ _ _ _ fW wr=>∃ (k:Nat) (l:List (ar×Int×Nat)) (jU:Nat),k≤eo∧fW= .int .i64 (k:Int)∧apL= .int .i64 (W.ik k)∧Hid (∀ j,j<k→W.ux j=true)∧Hid (c7 ar.key wr Hz l jU)∧Hid (∀ e∈l,e.1.ok)∧Hid ((l.map (·.1)).Nodup)∧Hid (∀ c,c7.get l c=if (W.hM k).contains c=true then some 1 else none)∧Hid (aK wr w.heap.size (ae.cells ⟨d',fa,fb,eE,ee,en,eR,fg,eX,eK⟩ W) 28 (0,0))∧Below w.heap.size w wr) (λ _ _ _ _ _ fW _=>eo - (intOf fW).toNat)
 case atStart=>exact ⟨0, [],0,Nat.zero_le _,rfl,rfl,yf,Na,(λ e he=>by simp at he),List.nodup_nil,(λ c=>by simp [c7.get,ae.hM]),Ba,Yt⟩
 case round =>
  clear yf Na Ba Yt;obtain ⟨k,l,jU,av,rfl,rfl,gA,jy,I1,IW,yd,CO,kE⟩:=hrel;obtain ⟨bL,c1,c2,c3,c4,c5,c',dT,dS⟩:=ae.qt CO.out;rw [iO.out] at c3;rw [gN.out] at c';by_cases bl:k<eo
  ·obtain ⟨t,aA⟩:=gg (l:=W.ag) (i:=k) (by rw [gN.out];exact bl);have Yg:=afp.out.keep kE;obtain ⟨b,o,rfl,h5⟩:=aW.at_ Yg (by rw [gN.out];omega);obtain ⟨HK,dY,eS,lD,vM,aDB,aDC⟩:=h5 k t aA;obtain ⟨fh,p9⟩:∃ fh,wrap64 (W.ik k+1)=fh:=⟨_,rfl⟩;have cV:W.ux k=(W.HG fh qf t && !(W.hM k).contains t.spot):=by
    unfold ae.ux;rw [List.getD_eq_getElem?_getD,aA,p9,Uo.out];rfl
   unfold ae.HG at cV;rw [iO.out] at cV;have Zj:W.ik (k+1)=t.id:=by
    unfold ae.ik;rw [if_neg (by omega),List.getD_eq_getElem?_getD,Nat.add_sub_cancel,aA];rfl
   have Zy:W.hM (k+1)=W.hM k++ [t.spot]:=by
    unfold ae.hM;rw [List.take_succ_eq_append_getElem (by rw [gN.out];exact bl),List.map_append];have:W.ag[k]'(by rw [gN.out];exact bl)=t:=by
     rw [List.getElem?_eq_getElem (by rw [gN.out];exact bl)] at aA;exact Option.some.inj aA
    rw [this];rfl
   have Un:=Lib.hid Zj;have Uw:=Lib.hid Zy;have cF:=jR wr (.cells #[.int .i64 t.id, .int .i64 t.owner, .int .i64 t.kind, .int .i64 t.spot.x, .int .i64 t.spot.y, .int .i64 t.cG, .int .i64 t.load] 66);have Yb:=aK.new wr t.cells 66 (0,0);obtain ⟨aM,Fo⟩:∃ aM,Hid (wr.alloc (.cells #[.int .i64 t.id, .int .i64 t.owner, .int .i64 t.kind, .int .i64 t.spot.x, .int .i64 t.spot.y, .int .i64 t.cG, .int .i64 t.load] 66)=aM):=⟨_,Lib.hid rfl⟩;rw [Fo.out] at cF;have yc:Hid (aK aM wr.heap.size t.cells 66 (0,0)):=by rw [← Fo.out];exact Yb
   have Ql:Hz<wr.heap.size:=jy.out.lt;have Ze:w.heap.size<Hz:=by have:=Nb.out;omega
   have nO:(k:Int)<(eo:Int):=by omega
   have xl:(0:Int)≤(k:Int):=by omega
   have aAn:(0:Int)≤(jn:Int)∧(jn:Int)≤8:=by omega
   clear Yg h5 aA Zj Zy Yb sg;have sg:=Uo.out;by_cases oq:t.kind=1
   ·have wN:=Lib.hid oq;rw [oq] at eS;clear oq;have Fh:=Lib.hid (λ V:World=>aaT V);have GB:ae.iG 1=10:=rfl;have GD:ae.xD 1=5:=rfl;rw [wN.out,GB,GD] at cV;have jz:=Lib.hid cV;clear GB GD cV;have Ng:Hid (wr.alloc (.cells #[.int .i64 t.id, .int .i64 t.owner, .int .i64 1, .int .i64 t.spot.x, .int .i64 t.spot.y, .int .i64 t.cG, .int .i64 t.load] 66)=aM):=by rw [← Fo.out,wN.out];rfl
    go_wp2_with fail
    rw [Ng.out];refine (Fh.out _).mono ?_;rintro e cl ⟨rfl,bo⟩;have sb:=cF.trans (bo.mono cF.size);have dj:=jR cl (.cells #[.int .i64 10, .int .i64 1, .int .i64 1, .int .i64 5] 207);have xa:=aK.new cl [.int .i64 10, .int .i64 1, .int .i64 1, .int .i64 5] 207 (0,0);obtain ⟨w3,AG⟩:∃ w3,Hid (cl.alloc (.cells #[.int .i64 10, .int .i64 1, .int .i64 1, .int .i64 5] 207)=w3):=⟨_,Lib.hid rfl⟩;rw [AG.out] at dj;have xa:aK w3 cl.heap.size [.int .i64 10, .int .i64 1, .int .i64 1, .int .i64 5] 207 (0,0):=by rw [← AG.out];exact xa
    have xu:w3.cell? ⟨cl.heap.size,0,none⟩=some (.int .i64 10):=xa.cell 0;have o':=sb.trans (dj.mono sb.size);have Ax:=Lib.hid ((yc.out.later bo).later dj);have Fi:=Lib.hid (jy.out.later o');have Aw:=Lib.hid (CO.out.later o');have Bp:=kE.trans (o'.mono kE.size);have Ff:=Lib.hid (Um.out.keep Bp);obtain ⟨t0,t1,t2,t3,t4,t5,t6⟩:=aW.eu ((yc.out.later bo));rw [wN.out] at t2;clear bL c1 c2 c3 c4 c5 c' dT dS;obtain ⟨bL,c1,c2,c3,c4,c5,c',dT,dS⟩:=ae.qt (CO.out.later sb);rw [iO.out] at c3;rw [gN.out] at c';have Yw:wr.heap.size<cl.heap.size:=by have:=bo.size;have:=yc.out.lt;omega
    have Yx:w.heap.size<cl.heap.size:=by have:=Ql;omega
    go_wp2_with fail
    rw [AG.out];clear t0 t1 t2 t3 t4 t5 t6 bL c1 c2 c3 c4 c5 c' dT dS;obtain ⟨t0,t1,t2,t3,t4,t5,t6⟩:=aW.eu Ax.out;obtain ⟨bL,c1,c2,c3,c4,c5,c',dT,dS⟩:=ae.qt Aw.out;rw [iO.out] at c3;rw [gN.out] at c';rw [wN.out] at t2;clear bo xa dj sb;cases aE:cw t.id fh qf with
    | false =>
     have bI:Hid (W.iV=false):=ae.ry (k:=k) (by rw [gN.out];exact bl) (by rw [jz.out,aE];simp);have wF:=Lib.hid aE;clear aE;refine (ni wF.out _).mono ?_;rintro e w' ⟨rfl,rfl⟩;go_wp2_with fail
     go_ret;exact ⟨gD bI.out.symm,Bp⟩
    | true =>
     have wF:=Lib.hid aE;clear aE;refine (ni wF.out _).mono ?_;rintro e w' ⟨rfl,rfl⟩;go_wp2_with fail
     cases γ:cw t.owner 0 ((jn:Int) - 1) with
     | false =>
      have bI:Hid (W.iV=false):=ae.ry (k:=k) (by rw [gN.out];exact bl) (by rw [jz.out,γ];simp);have cY:=Lib.hid γ;clear γ;refine (ni cY.out _).mono ?_;rintro e w' ⟨rfl,rfl⟩;go_wp2_with fail
      go_ret;exact ⟨gD bI.out.symm,Bp⟩
     | true =>
      have cY:=Lib.hid γ;clear γ;refine (ni cY.out _).mono ?_;rintro e w' ⟨rfl,rfl⟩;go_wp2_with fail
      cases aa:W.field.ground t.spot with
      | false =>
       have bI:Hid (W.iV=false):=ae.ry (k:=k) (by rw [gN.out];exact bl) (by rw [jz.out,aa];simp);have s0:=Lib.hid aa;clear aa;have jx:=Ga W.field t.spot d' en _ Ff.out sX.out;rw [s0.out] at jx;refine jx.mono ?_;rintro e qq ⟨rfl,de⟩;have Bm:=o'.trans (de.mono o'.size);have tO:=kE.trans (Bm.mono kE.size);have Ay:=Lib.hid (Ax.out.later de);have Fj:=Lib.hid (Fi.out.later de);have Fe:=Lib.hid (Aw.out.later de);clear t0 t1 t2 t3 t4 t5 t6 bL c1 c2 c3 c4 c5 c' dT dS jx;obtain ⟨t0,t1,t2,t3,t4,t5,t6⟩:=aW.eu Ay.out;have xu:=cell_later de xu;go_wp2_with fail
       go_ret;exact ⟨gD bI.out.symm,tO⟩
      | true =>
       have s0:=Lib.hid aa;clear aa;have jx:=Ga W.field t.spot d' en _ Ff.out sX.out;rw [s0.out] at jx;refine jx.mono ?_;rintro e qq ⟨rfl,de⟩;have Bm:=o'.trans (de.mono o'.size);have tO:=kE.trans (Bm.mono kE.size);have Ay:=Lib.hid (Ax.out.later de);have Fj:=Lib.hid (Fi.out.later de);have Fe:=Lib.hid (Aw.out.later de);clear t0 t1 t2 t3 t4 t5 t6 bL c1 c2 c3 c4 c5 c' dT dS jx;obtain ⟨t0,t1,t2,t3,t4,t5,t6⟩:=aW.eu Ay.out;have xu:=cell_later de xu;go_wp2_with fail
       cases au:cw t.cG 1 10 with
       | false =>
        have bI:Hid (W.iV=false):=ae.ry (k:=k) (by rw [gN.out];exact bl) (by rw [jz.out,au];simp);have wG:=Lib.hid au;clear au;refine (ni wG.out _).mono ?_;rintro e w' ⟨rfl,rfl⟩;go_wp2_with fail
        go_ret;exact ⟨gD bI.out.symm,tO⟩
       | true =>
        have wG:=Lib.hid au;clear au;refine (ni wG.out _).mono ?_;rintro e w' ⟨rfl,rfl⟩;go_wp2_with fail
        cases a1:cw t.load 0 5 with
        | false =>
         have bI:Hid (W.iV=false):=ae.ry (k:=k) (by rw [gN.out];exact bl) (by rw [jz.out,a1];simp);have wH:=Lib.hid a1;clear a1;refine (ni wH.out _).mono ?_;rintro e w' ⟨rfl,rfl⟩;go_wp2_with fail
         go_ret;exact ⟨gD bI.out.symm,tO⟩
        | true =>
         have wH:=Lib.hid a1;clear a1;refine (ni wH.out _).mono ?_;rintro e w' ⟨rfl,rfl⟩;go_wp2_with fail
         have xq:t.spot.ok:=by
          obtain ⟨i1,i2,i3,i4,i5,i6⟩:=aC.idx sX.out (aC.iD s0.out);obtain ⟨g1,g2,g3,g4,_,_⟩:=aC.jg sX.out;exact ⟨bt.2 (by omega),bt.2 (by omega)⟩
         obtain ⟨v,wP⟩:∃ v,Hid ((c7.get l t.spot).getD 0=v):=⟨_,Lib.hid rfl⟩;obtain ⟨st,dL,dk,uI,pG,Nk⟩:=Xw Fj.out I1.out IW.out t.spot xq v wP.out;obtain ⟨y9,aU,y_,f1,za,GC,GV,GX,xg⟩:=Nk;have anW:0≤v∧v≤1:=by
          rw [← wP.out,yd.out];split<;>simp
         have M_:=Lib.hid GC;have Fm:=Lib.hid GV;have wM:=Lib.hid GX;have DA:=(xg (Nat.le_of_lt Ze)).1 tO;have wD:=Lib.hid (Fe.out.of_heap ((xg (B:=0) (a:=qq) (Nat.zero_le _)).2 _ (by omega)));have xJ:uI.cell? ⟨wr.heap.size,3,none⟩=some (.int .i64 t.spot.x):=(Fm.out _ (by simp;omega)).trans t3;have Ei:uI.cell? ⟨wr.heap.size,4,none⟩=some (.int .i64 t.spot.y):=(Fm.out _ (by simp;omega)).trans t4;have zG:pG.cell? ⟨wr.heap.size,0,none⟩=some (.int .i64 t.id):=(wM.out _ (by simp;omega)).trans t0;have uC:pG.cell? ⟨wr.heap.size,3,none⟩=some (.int .i64 t.spot.x):=(wM.out _ (by simp;omega)).trans t3;have asn:pG.cell? ⟨wr.heap.size,4,none⟩=some (.int .i64 t.spot.y):=(wM.out _ (by simp;omega)).trans t4;have g1:=y9 1;have g2:=aU 1;have g3:=y_ 1;have g4:=f1 1;have g5:=za 1;clear GC GV GX xg y9 aU y_ f1 za;simp only [WZ] at g1 g2 g3 g4 g5;cases pc:(W.hM k).contains t.spot with
         | true =>
          have lu:v=1:=by rw [← wP.out,yd.out,pc];rfl
          subst lu;rw [show (1:Int)+1=2 from rfl] at g4 g5;have bI:Hid (W.iV=false):=ae.ry (k:=k) (by rw [gN.out];exact bl) (by rw [jz.out,pc];simp);clear pc
          go_region
          go_wp2_with fail
          go_ret;exact ⟨gD bI.out.symm,below_drewN DA 1⟩
         | false =>
          have lu:v=0:=by rw [← wP.out,yd.out,pc];rfl
          subst lu;rw [show (0:Int)+1=1 from rfl] at g4 g5;have ny:Hid (∀ j,j<k+1→W.ux j=true):=by
           intro j ay;by_cases gx:j<k
           ·exact gA.out j gx
           ·obtain rfl:j=k:=by omega
            rw [jz.out,wF.out,cY.out,s0.out,wG.out,wH.out,pc];rfl
          have M8:Hid (∀ c,c7.get (c7.put l jU t.spot (0+1)) c=if (W.hM (k+1)).contains c=true then some 1 else none):=by
           intro c;rw [c7.w9,Uw.out,yd.out];by_cases Br:c=t.spot
           ·simp [Br]
           ·rw [if_neg Br];simp [Br]
          have Ni:Hid (∀ e∈c7.put l jU t.spot (0+1),e.1.ok):=c7.Ri I1.out xq;have M9:Hid (((c7.put l jU t.spot (0+1)).map (·.1)).Nodup):=c7.DU IW.out _ _ _;clear pc xq
          go_region
          go_wp2_with fail
          go_roundw
          case rel=>exact ⟨k+1,_,_,by omega,by go_num,by rw [Un.out],ny,M_.out.drewN 1,Ni,M9,M8,wD.out.drewN 1,below_drewN DA 1⟩
          case measure=>simp [intOf];omega
   ·by_cases gP:t.kind=2
    ·have wN:=Lib.hid gP;rw [gP] at eS;clear oq gP;have Fh:=Lib.hid (λ V:World=>aaU V);have GB:ae.iG 2=20:=rfl;have GD:ae.xD 2=0:=rfl;rw [wN.out,GB,GD] at cV;have jz:=Lib.hid cV;clear GB GD cV;have Ng:Hid (wr.alloc (.cells #[.int .i64 t.id, .int .i64 t.owner, .int .i64 2, .int .i64 t.spot.x, .int .i64 t.spot.y, .int .i64 t.cG, .int .i64 t.load] 66)=aM):=by rw [← Fo.out,wN.out];rfl
     go_wp2_with fail
     rw [Ng.out];refine (Fh.out _).mono ?_;rintro e cl ⟨rfl,bo⟩;have sb:=cF.trans (bo.mono cF.size);have dj:=jR cl (.cells #[.int .i64 20, .int .i64 2, .int .i64 4, .int .i64 12] 207);have xa:=aK.new cl [.int .i64 20, .int .i64 2, .int .i64 4, .int .i64 12] 207 (0,0);obtain ⟨w3,AG⟩:∃ w3,Hid (cl.alloc (.cells #[.int .i64 20, .int .i64 2, .int .i64 4, .int .i64 12] 207)=w3):=⟨_,Lib.hid rfl⟩;rw [AG.out] at dj;have xa:aK w3 cl.heap.size [.int .i64 20, .int .i64 2, .int .i64 4, .int .i64 12] 207 (0,0):=by rw [← AG.out];exact xa
     have xu:w3.cell? ⟨cl.heap.size,0,none⟩=some (.int .i64 20):=xa.cell 0;have o':=sb.trans (dj.mono sb.size);have Ax:=Lib.hid ((yc.out.later bo).later dj);have Fi:=Lib.hid (jy.out.later o');have Aw:=Lib.hid (CO.out.later o');have Bp:=kE.trans (o'.mono kE.size);have Ff:=Lib.hid (Um.out.keep Bp);obtain ⟨t0,t1,t2,t3,t4,t5,t6⟩:=aW.eu ((yc.out.later bo));rw [wN.out] at t2;clear bL c1 c2 c3 c4 c5 c' dT dS;obtain ⟨bL,c1,c2,c3,c4,c5,c',dT,dS⟩:=ae.qt (CO.out.later sb);rw [iO.out] at c3;rw [gN.out] at c';have Yw:wr.heap.size<cl.heap.size:=by have:=bo.size;have:=yc.out.lt;omega
     have Yx:w.heap.size<cl.heap.size:=by have:=Ql;omega
     go_wp2_with fail
     rw [AG.out];clear t0 t1 t2 t3 t4 t5 t6 bL c1 c2 c3 c4 c5 c' dT dS;obtain ⟨t0,t1,t2,t3,t4,t5,t6⟩:=aW.eu Ax.out;obtain ⟨bL,c1,c2,c3,c4,c5,c',dT,dS⟩:=ae.qt Aw.out;rw [iO.out] at c3;rw [gN.out] at c';rw [wN.out] at t2;clear bo xa dj sb;cases aE:cw t.id fh qf with
     | false =>
      have bI:Hid (W.iV=false):=ae.ry (k:=k) (by rw [gN.out];exact bl) (by rw [jz.out,aE];simp);have wF:=Lib.hid aE;clear aE;refine (ni wF.out _).mono ?_;rintro e w' ⟨rfl,rfl⟩;go_wp2_with fail
      go_ret;exact ⟨gD bI.out.symm,Bp⟩
     | true =>
      have wF:=Lib.hid aE;clear aE;refine (ni wF.out _).mono ?_;rintro e w' ⟨rfl,rfl⟩;go_wp2_with fail
      cases γ:cw t.owner 0 ((jn:Int) - 1) with
      | false =>
       have bI:Hid (W.iV=false):=ae.ry (k:=k) (by rw [gN.out];exact bl) (by rw [jz.out,γ];simp);have cY:=Lib.hid γ;clear γ;refine (ni cY.out _).mono ?_;rintro e w' ⟨rfl,rfl⟩;go_wp2_with fail
       go_ret;exact ⟨gD bI.out.symm,Bp⟩
      | true =>
       have cY:=Lib.hid γ;clear γ;refine (ni cY.out _).mono ?_;rintro e w' ⟨rfl,rfl⟩;go_wp2_with fail
       cases aa:W.field.ground t.spot with
       | false =>
        have bI:Hid (W.iV=false):=ae.ry (k:=k) (by rw [gN.out];exact bl) (by rw [jz.out,aa];simp);have s0:=Lib.hid aa;clear aa;have jx:=Ga W.field t.spot d' en _ Ff.out sX.out;rw [s0.out] at jx;refine jx.mono ?_;rintro e qq ⟨rfl,de⟩;have Bm:=o'.trans (de.mono o'.size);have tO:=kE.trans (Bm.mono kE.size);have Ay:=Lib.hid (Ax.out.later de);have Fj:=Lib.hid (Fi.out.later de);have Fe:=Lib.hid (Aw.out.later de);clear t0 t1 t2 t3 t4 t5 t6 bL c1 c2 c3 c4 c5 c' dT dS jx;obtain ⟨t0,t1,t2,t3,t4,t5,t6⟩:=aW.eu Ay.out;have xu:=cell_later de xu;go_wp2_with fail
        go_ret;exact ⟨gD bI.out.symm,tO⟩
       | true =>
        have s0:=Lib.hid aa;clear aa;have jx:=Ga W.field t.spot d' en _ Ff.out sX.out;rw [s0.out] at jx;refine jx.mono ?_;rintro e qq ⟨rfl,de⟩;have Bm:=o'.trans (de.mono o'.size);have tO:=kE.trans (Bm.mono kE.size);have Ay:=Lib.hid (Ax.out.later de);have Fj:=Lib.hid (Fi.out.later de);have Fe:=Lib.hid (Aw.out.later de);clear t0 t1 t2 t3 t4 t5 t6 bL c1 c2 c3 c4 c5 c' dT dS jx;obtain ⟨t0,t1,t2,t3,t4,t5,t6⟩:=aW.eu Ay.out;have xu:=cell_later de xu;go_wp2_with fail
        cases au:cw t.cG 1 20 with
        | false =>
         have bI:Hid (W.iV=false):=ae.ry (k:=k) (by rw [gN.out];exact bl) (by rw [jz.out,au];simp);have wG:=Lib.hid au;clear au;refine (ni wG.out _).mono ?_;rintro e w' ⟨rfl,rfl⟩;go_wp2_with fail
         go_ret;exact ⟨gD bI.out.symm,tO⟩
        | true =>
         have wG:=Lib.hid au;clear au;refine (ni wG.out _).mono ?_;rintro e w' ⟨rfl,rfl⟩;go_wp2_with fail
         cases a1:cw t.load 0 0 with
         | false =>
          have bI:Hid (W.iV=false):=ae.ry (k:=k) (by rw [gN.out];exact bl) (by rw [jz.out,a1];simp);have wH:=Lib.hid a1;clear a1;refine (ni wH.out _).mono ?_;rintro e w' ⟨rfl,rfl⟩;go_wp2_with fail
          go_ret;exact ⟨gD bI.out.symm,tO⟩
         | true =>
          have wH:=Lib.hid a1;clear a1;refine (ni wH.out _).mono ?_;rintro e w' ⟨rfl,rfl⟩;go_wp2_with fail
          have xq:t.spot.ok:=by
           obtain ⟨i1,i2,i3,i4,i5,i6⟩:=aC.idx sX.out (aC.iD s0.out);obtain ⟨g1,g2,g3,g4,_,_⟩:=aC.jg sX.out;exact ⟨bt.2 (by omega),bt.2 (by omega)⟩
          obtain ⟨v,wP⟩:∃ v,Hid ((c7.get l t.spot).getD 0=v):=⟨_,Lib.hid rfl⟩;obtain ⟨st,dL,dk,uI,pG,Nk⟩:=Xw Fj.out I1.out IW.out t.spot xq v wP.out;obtain ⟨y9,aU,y_,f1,za,GC,GV,GX,xg⟩:=Nk;have anW:0≤v∧v≤1:=by
           rw [← wP.out,yd.out];split<;>simp
          have M_:=Lib.hid GC;have Fm:=Lib.hid GV;have wM:=Lib.hid GX;have DA:=(xg (Nat.le_of_lt Ze)).1 tO;have wD:=Lib.hid (Fe.out.of_heap ((xg (B:=0) (a:=qq) (Nat.zero_le _)).2 _ (by omega)));have xJ:uI.cell? ⟨wr.heap.size,3,none⟩=some (.int .i64 t.spot.x):=(Fm.out _ (by simp;omega)).trans t3;have Ei:uI.cell? ⟨wr.heap.size,4,none⟩=some (.int .i64 t.spot.y):=(Fm.out _ (by simp;omega)).trans t4;have zG:pG.cell? ⟨wr.heap.size,0,none⟩=some (.int .i64 t.id):=(wM.out _ (by simp;omega)).trans t0;have uC:pG.cell? ⟨wr.heap.size,3,none⟩=some (.int .i64 t.spot.x):=(wM.out _ (by simp;omega)).trans t3;have asn:pG.cell? ⟨wr.heap.size,4,none⟩=some (.int .i64 t.spot.y):=(wM.out _ (by simp;omega)).trans t4;have g1:=y9 1;have g2:=aU 1;have g3:=y_ 1;have g4:=f1 1;have g5:=za 1;clear GC GV GX xg y9 aU y_ f1 za;simp only [WZ] at g1 g2 g3 g4 g5;cases pc:(W.hM k).contains t.spot with
          | true =>
           have lu:v=1:=by rw [← wP.out,yd.out,pc];rfl
           subst lu;rw [show (1:Int)+1=2 from rfl] at g4 g5;have bI:Hid (W.iV=false):=ae.ry (k:=k) (by rw [gN.out];exact bl) (by rw [jz.out,pc];simp);clear pc
           go_region
           go_wp2_with fail
           go_ret;exact ⟨gD bI.out.symm,below_drewN DA 1⟩
          | false =>
           have lu:v=0:=by rw [← wP.out,yd.out,pc];rfl
           subst lu;rw [show (0:Int)+1=1 from rfl] at g4 g5;have ny:Hid (∀ j,j<k+1→W.ux j=true):=by
            intro j ay;by_cases gx:j<k
            ·exact gA.out j gx
            ·obtain rfl:j=k:=by omega
             rw [jz.out,wF.out,cY.out,s0.out,wG.out,wH.out,pc];rfl
           have M8:Hid (∀ c,c7.get (c7.put l jU t.spot (0+1)) c=if (W.hM (k+1)).contains c=true then some 1 else none):=by
            intro c;rw [c7.w9,Uw.out,yd.out];by_cases Br:c=t.spot
            ·simp [Br]
            ·rw [if_neg Br];simp [Br]
           have Ni:Hid (∀ e∈c7.put l jU t.spot (0+1),e.1.ok):=c7.Ri I1.out xq;have M9:Hid (((c7.put l jU t.spot (0+1)).map (·.1)).Nodup):=c7.DU IW.out _ _ _;clear pc xq
           go_region
           go_wp2_with fail
           go_roundw
           case rel=>exact ⟨k+1,_,_,by omega,by go_num,by rw [Un.out],ny,M_.out.drewN 1,Ni,M9,M8,wD.out.drewN 1,below_drewN DA 1⟩
           case measure=>simp [intOf];omega
    ·have Qg:cw t.kind 1 2=false:=nT (by omega);have bI:Hid (W.iV=false):=ae.ry (k:=k) (by rw [gN.out];exact bl) (by rw [cV,Qg];rfl);have Fh:=Lib.hid (λ V:World=>aaV t.kind V Qg);have YG:(t.kind == 1)=false:=by simpa using oq
     clear cV Qg oq gP;go_wp2_with fail
     rw [Fo.out];refine (Fh.out _).mono ?_;rintro e cl ⟨rfl,bo⟩;have sb:=cF.trans (bo.mono cF.size);obtain ⟨t0,t1,t2,t3,t4,t5,t6⟩:=aW.eu ((yc.out.later bo));clear bL c1 c2 c3 c4 c5 c' dT dS;obtain ⟨bL,c1,c2,c3,c4,c5,c',dT,dS⟩:=ae.qt (CO.out.later sb);have Yw:wr.heap.size<cl.heap.size:=by have:=bo.size;have:=yc.out.lt;omega
     have Yx:w.heap.size<cl.heap.size:=by have:=Ql;omega
     go_wp2_with fail
     go_ret;exact ⟨gD bI.out.symm,(kE.trans (sb.mono kE.size)).trans ((jR _ _).mono (by omega))⟩
  ·obtain rfl:k=eo:=by omega
   have di:∀ j,j<W.ag.length→W.ux j=true:=λ j ay=>gA.out j (by rw [gN.out] at ay;exact ay);have nR:W.iV=(cw W.next 1 1000000 && cw W.now 0 1000000):=by
    unfold ae.iV;rw [List.all_eq_true.2 (λ j ay=>di j (List.mem_range.1 ay)),Bool.true_and]
   have wO:=Lib.hid nR;clear di nR sg;cases γ:cw W.next 1 1000000 with
   | false =>
    have H1:=Lib.hid γ;clear γ;go_wp2_with fail
    refine (ni H1.out _).mono ?_;rintro e w' ⟨rfl,rfl⟩;go_wp2_with fail
    go_ret;exact ⟨gD (by rw [wO.out,H1.out];rfl),kE⟩
   | true =>
    have Bt:=λ V=>Mx W.now 0 1000000 V;have H1:=Lib.hid γ;rw [H1.out,Bool.true_and] at wO;clear γ;generalize cw W.now 0 1000000=r2 at *
    go_wp2_with fail
    refine (ni H1.out _).mono ?_;rintro e w' ⟨rfl,rfl⟩;go_wp2_with fail
    refine (Bt _).mono ?_;rintro e w' ⟨rfl,rfl⟩;go_wp2_with fail
    go_ret;exact ⟨gD wO.out.symm,kE⟩
end
end Go.Proofs.YtlikikpgmmkjbaaGreat
