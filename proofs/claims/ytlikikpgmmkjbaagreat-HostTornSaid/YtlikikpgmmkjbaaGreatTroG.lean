import Derived.Test.YtlikikpgmmkjbaaGreatBlw
set_option linter.unusedVariables false
set_option linter.unusedSimpArgs false
set_option maxRecDepth 100000
set_option maxHeartbeats 4000000
open Go.RowKit
namespace Go.Proofs.YtlikikpgmmkjbaaGreat
open Tryz
abbrev aSW:=@List.setIfInBounds_toArray
abbrev aU4:=@Go.wpQuiet_nil
abbrev aVT:=@Go.World.cell?_of_block
section
theorem azX (a:ag.cc) (W:ag) (w:World) (bP:ag.Has w a W) (aF:W.field.bn=0) (gI:W.aU.length≤8):
    Calls prog 89 #[.agg (ag.cells a W).toArray] w λ e w'=>e= .returned (.bool W.nU)∧Below w.heap.size w w':=by
  obtain ⟨eX,fU,fV,fw,e5,ff,fI,gd,fN,fA⟩:=a;show Calls _ _ #[.agg #[.int .i64 W.field.wide, .int .i64 W.field.high, .slice eX W.field.aW.length ff, .slice fU W.aU.length fI, .slice fV W.bj.length gd, .slice fw W.br.length fN, .slice e5 W.ak.length fA, .int .i64 W.next, .int .i64 W.now]] _ _;obtain ⟨jU,jZ⟩:∃ n,Hid (W.aU.length=n):=⟨_,aQO rfl⟩;obtain ⟨ns,zx⟩:∃ n,Hid (W.bj.length=n):=⟨_,aQO rfl⟩;have gI:jU≤8:=by rw [← jZ.out];exact gI
  have cx:=k5 w (.cells (ag.cells ⟨eX,fU,fV,fw,e5,ff,fI,gd,fN,fA⟩ W).toArray 28);have iU:=aQO (aQ.new w (ag.cells ⟨eX,fU,fV,fw,e5,ff,fI,gd,fN,fA⟩ W) 28 (0,0));have l8:=aQO (bP.keep cx);have v_:=aQO aF;obtain ⟨w0,iW⟩:∃ w0,Hid (w.alloc (.cells (ag.cells ⟨eX,fU,fV,fw,e5,ff,fI,gd,fN,fA⟩ W).toArray 28)=w0):=⟨_,aQO rfl⟩;rw [iW.out] at cx l8;have iU:Hid (aQ w0 w.heap.size (ag.cells ⟨eX,fU,fV,fw,e5,ff,fI,gd,fN,fA⟩ W) 28 (0,0)):=by rw [← iW.out];exact iU
  have o3:Hid (w.alloc (.cells #[.int .i64 W.field.wide, .int .i64 W.field.high, .slice eX W.field.aW.length ff, .slice fU jU fI, .slice fV ns gd, .slice fw W.br.length fN, .slice e5 W.ak.length fA, .int .i64 W.next, .int .i64 W.now] 28)=w0):=by rw [← iW.out,← jZ.out,← zx.out];rfl
  obtain ⟨bW,c1,c2,c3,c4,c5,dA,dS,eG⟩:=ag.sJ iU.out;rw [jZ.out] at c3;rw [zx.out] at c4;clear bP aF;by_cases hlen:ns=jU
  · subst hlen
    have Bh:Hid (∀ j,j<0→W.xe j=true):=aQO λ j ay=>absurd ay (by omega);go_enter func89,ntmps89;rw [jZ.out,zx.out];go_wp2_with fail
    rw [o3.out];go_loopw [3,4,15] (λ _ _ gU wr=>∃ k:Nat,k≤ns∧gU= .int .i64 (k:Int)∧Hid (∀ j,j<k→W.xe j=true)∧Below w0.heap.size w0 wr) (λ _ _ gU _=>ns - (intOf gU).toNat)
    case atStart=>exact ⟨0,aRE _,rfl,Bh,aRe _ _⟩
    case round =>
      clear Bh bW c1 c2 c3 c4 c5 dA dS eG;obtain ⟨k,av,rfl,hO,Φ⟩:=hrel;by_cases bA:k<ns
      · obtain ⟨p,hp⟩:=hG (l:=W.aU) (i:=k) (by rw [jZ.out];exact bA)
        obtain ⟨st,hs⟩:=hG (l:=W.bj) (i:=k) (by rw [zx.out];exact bA);have Pe:=l8.out.keep Φ;have aep:=iU.out.later Φ;have Pd:ax.rep.aI 16 wr fU fI W.aU:=Pe.B;have J4:bK.aI 8 wr eX ff W.field.aW:=Pe.P;have aex:bK.aI 8 wr fV gd W.bj:=Pe.S;have aI9:(ns:Int)≤(fI:Int):=by have:=Pd.1;rw [jZ.out] at this;omega
        obtain ⟨b,o,rfl,jg⟩:=ax.at_ Pd (by rw [jZ.out];omega);obtain ⟨LX,eK⟩:=jg k p hp;obtain ⟨cX,os,rfl,ae7⟩:=E5 aex (by rw [zx.out];omega);have XR:=ae7 k st hs;obtain ⟨bW,c1,c2,c3,c4,c5,dA,dS,eG⟩:=ag.sJ aep;rw [jZ.out] at c3;rw [zx.out] at c4;have ea:W.xe k=(W.field.ground p && !(W.aU.take k).contains p && cL st 0 1000000):=by
          unfold ag.xe;rw [aQK,hp,aQK,hs];rfl
        have cK:=k5 wr (.cells #[.int .i64 p.x, .int .i64 p.y] 49);have Pc:=aQ.new wr p.cells 49 (0,0);obtain ⟨aP,Sx⟩:∃ aP,Hid (wr.alloc (.cells #[.int .i64 p.x, .int .i64 p.y] 49)=aP):=⟨_,aQO rfl⟩;rw [Sx.out] at cK;have Pc:aQ aP wr.heap.size p.cells 49 (0,0):=by rw [← Sx.out];exact Pc
        obtain ⟨CF,r1⟩:=ax.fl Pc;have kI:=aQO (λ (V:World) (h:Below aP.heap.size aP V)=>J1 W.field p eX ff V ((J4.keep cK).keep h) v_.out);have zq:=aQO (λ (V:World) (h:Below aP.heap.size aP V)=>aup p (some ⟨b,o,none⟩) fI (W.aU.take k) V (((Pd.H0 k).keep cK).keep h));have iJ:(W.aU.take k).length=k:=by rw [aQP,jZ.out];omega
        rw [iJ] at zq;have lS:=aQO (λ (V:World)=>RH st 0 1000000 V);have kK:=aQO ea;have BX:=aRe aP.heap.size aP;have BW:=Φ.trans (cK.mono Φ.size);have pB:(k:Int)<(ns:Int):=by omega
        have pz:(0:Int)≤(k:Int):=by omega
        have avg:(k:Int)≤(fI:Int):=by omega
        have VT:k≤fI:=by omega
        clear Pe aep jg ae7 hp hs ea iJ Pd J4 aex;go_wp2_with fail
        rw [Sx.out];have bW:=cell_later cK bW;have c1:=cell_later cK c1;have c2:=cell_later cK c2;have c3:=cell_later cK c3;have c4:=cell_later cK c4;have XR:=cell_later cK XR;have fi:=aQO (λ (lL:World) (h:Below aP.heap.size aP lL)=>(⟨trivial,cell_later h bW,cell_later h c1,cell_later h c2,cell_later h c3,cell_later h c4,cell_later h CF,cell_later h r1,cell_later h XR⟩:True∧lL.cell? ⟨w.heap.size,0,none⟩=some (.int .i64 W.field.wide)∧lL.cell? ⟨w.heap.size,1,none⟩=some (.int .i64 W.field.high)∧lL.cell? ⟨w.heap.size,2,none⟩=some (.slice eX W.field.aW.length ff)∧lL.cell? ⟨w.heap.size,3,none⟩=some (.slice (some ⟨b,o,none⟩) ns fI)∧lL.cell? ⟨w.heap.size,4,none⟩=some (.slice (some ⟨cX,os,none⟩) ns gd)∧lL.cell? ⟨wr.heap.size,0,none⟩=some (.int .i64 p.x)∧lL.cell? ⟨wr.heap.size,1,none⟩=some (.int .i64 p.y)∧lL.cell? ⟨cX,os+k,none⟩=some (.int .i64 st)));clear LX eK c5 dA dS eG Pc;cases γ:W.field.ground p with
        | false =>
          rw [γ] at kI;have bT:Hid (W.nU=false):=ag.Xs (k:=k) (by rw [jZ.out];exact bA) (by rw [kK.out,γ];rfl);clear γ;refine RL (by kernel_rfl) (by kernel_rfl) ?_;repeat (first
            | go_big_quiet_skip
            | (go_big_quiet_want
               first
               | (go_big_quiet_op;go_big_quiet_on)
               | (apply Exists.intro
                  refine ⟨λ Fs I=> ?_, ?_⟩
                  · first
                    | (obtain ⟨_,Xz,XA,XB,XC,XD,XE,XF,XG⟩:=fi.out Fs I
                       apply QP
                       · (go_simp;rfl)
                       · rfl)
                    | (apply QO
                       · (go_simp;rfl)
                       · rfl
                       · first
                         | (with_reducible refine (kI.out _ I).mono ?_;rintro e cr ⟨rfl,bu⟩;exact ⟨rfl,nG I bu⟩)
                         | (with_reducible refine (zq.out _ I).mono ?_;rintro e cr ⟨rfl,bu⟩;exact ⟨rfl,nG I bu⟩)
                         | (with_reducible refine (lS.out _).mono ?_;rintro e cr ⟨rfl,rfl⟩;exact ⟨rfl,I⟩)
                       )
                  go_big_quiet_on
                  simp only [Act.put,aSW,aSL,aSM])))
          refine aU4 ?_;intro AX bB;go_wp2_with fail
          go_ret;exact ⟨hW bT.out.symm,cx.trans ((BW.trans (aVo bB BW.size)).mono cx.size)⟩
        | true =>
          rw [γ] at kI;cases ab:(W.aU.take k).contains p with
          | true =>
            rw [ab] at zq;have bT:Hid (W.nU=false):=ag.Xs (k:=k) (by rw [jZ.out];exact bA) (by rw [kK.out,γ,ab];rfl);clear γ ab;refine RL (by kernel_rfl) (by kernel_rfl) ?_;repeat (first
              | go_big_quiet_skip
              | (go_big_quiet_want
                 first
                 | (go_big_quiet_op;go_big_quiet_on)
                 | (apply Exists.intro
                    refine ⟨λ Fs I=> ?_, ?_⟩
                    · first
                      | (obtain ⟨_,Xz,XA,XB,XC,XD,XE,XF,XG⟩:=fi.out Fs I
                         apply QP
                         · (go_simp;rfl)
                         · rfl)
                      | (apply QO
                         · (go_simp;rfl)
                         · rfl
                         · first
                           | (with_reducible refine (kI.out _ I).mono ?_;rintro e cr ⟨rfl,bu⟩;exact ⟨rfl,nG I bu⟩)
                           | (with_reducible refine (zq.out _ I).mono ?_;rintro e cr ⟨rfl,bu⟩;exact ⟨rfl,nG I bu⟩)
                           | (with_reducible refine (lS.out _).mono ?_;rintro e cr ⟨rfl,rfl⟩;exact ⟨rfl,I⟩)
                         )
                    go_big_quiet_on
                    simp only [Act.put,aSW,aSL,aSM])))
            refine aU4 ?_;intro AX bB;go_wp2_with fail
            go_ret;exact ⟨hW bT.out.symm,cx.trans ((BW.trans (aVo bB BW.size)).mono cx.size)⟩
          | false =>
            rw [ab] at zq;cases aw:cL st 0 1000000 with
            | false =>
              rw [aw] at lS;have bT:Hid (W.nU=false):=ag.Xs (k:=k) (by rw [jZ.out];exact bA) (by rw [kK.out,aw,aVb]);clear γ ab aw;refine RL (by kernel_rfl) (by kernel_rfl) ?_;repeat (first
                | go_big_quiet_skip
                | (go_big_quiet_want
                   first
                   | (go_big_quiet_op;go_big_quiet_on)
                   | (apply Exists.intro
                      refine ⟨λ Fs I=> ?_, ?_⟩
                      · first
                        | (obtain ⟨_,Xz,XA,XB,XC,XD,XE,XF,XG⟩:=fi.out Fs I
                           apply QP
                           · (go_simp;rfl)
                           · rfl)
                        | (apply QO
                           · (go_simp;rfl)
                           · rfl
                           · first
                             | (with_reducible refine (kI.out _ I).mono ?_;rintro e cr ⟨rfl,bu⟩;exact ⟨rfl,nG I bu⟩)
                             | (with_reducible refine (zq.out _ I).mono ?_;rintro e cr ⟨rfl,bu⟩;exact ⟨rfl,nG I bu⟩)
                             | (with_reducible refine (lS.out _).mono ?_;rintro e cr ⟨rfl,rfl⟩;exact ⟨rfl,I⟩)
                           )
                      go_big_quiet_on
                      simp only [Act.put,aSW,aSL,aSM])))
              refine aU4 ?_;intro AX bB;go_wp2_with fail
              go_ret;exact ⟨hW bT.out.symm,cx.trans ((BW.trans (aVo bB BW.size)).mono cx.size)⟩
            | true =>
              rw [aw] at lS;have oZ:Hid (∀ j,j<k+1→W.xe j=true):=by
                intro j ay;by_cases gK:j<k
                · exact hO.out j gK
                · obtain rfl:j=k:=by omega
                  rw [kK.out,γ,ab,aw];rfl
              clear γ ab aw;refine RL (by kernel_rfl) (by kernel_rfl) ?_;repeat (first
                | go_big_quiet_skip
                | (go_big_quiet_want
                   first
                   | (go_big_quiet_op;go_big_quiet_on)
                   | (apply Exists.intro
                      refine ⟨λ Fs I=> ?_, ?_⟩
                      · first
                        | (obtain ⟨_,Xz,XA,XB,XC,XD,XE,XF,XG⟩:=fi.out Fs I
                           apply QP
                           · (go_simp;rfl)
                           · rfl)
                        | (apply QO
                           · (go_simp;rfl)
                           · rfl
                           · first
                             | (with_reducible refine (kI.out _ I).mono ?_;rintro e cr ⟨rfl,bu⟩;exact ⟨rfl,nG I bu⟩)
                             | (with_reducible refine (zq.out _ I).mono ?_;rintro e cr ⟨rfl,bu⟩;exact ⟨rfl,nG I bu⟩)
                             | (with_reducible refine (lS.out _).mono ?_;rintro e cr ⟨rfl,rfl⟩;exact ⟨rfl,I⟩)
                           )
                      go_big_quiet_on
                      simp only [Act.put,aSW,aSL,aSM])))
              refine aU4 ?_;intro AX bB;go_wp2_with fail
              go_roundw
              case rel=>exact ⟨k+1,by omega,by go_num,oZ,BW.trans (aVo bB BW.size)⟩
              case measure=>simp [intOf];omega
      · have qN:Hid (W.nU=true):=ag.ai7 (by rw [zx.out,jZ.out]) λ j ay=>hO.out j (by rw [jZ.out] at ay;omega)
        clear hO;go_wp2_with fail
        go_ret;exact ⟨hW qN.out.symm,cx.trans (Φ.mono cx.size)⟩
  · have qN:Hid (W.nU=false):=ag.azY (by rw [zx.out,jZ.out];exact hlen)
    have hd:((ns:Int) != (jU:Int))=true:=by simp;omega
    rw [qN.out];go_enter func89,ntmps89;rw [jZ.out,zx.out];go_wp2_with fail
    go_ret;rw [o3.out];exact ⟨Z,cx⟩
end
section
theorem ayF (a:ag.cc) (W:ag) (w:World) (bP:ag.Has w a W):
  Calls prog 90 #[.agg (ag.cells a W).toArray] w λ e w'=>e= .returned (.bool W.oJ)∧Below w.heap.size w w':=by
 obtain ⟨eX,fU,fV,fw,e5,ff,fI,gd,fN,fA⟩:=a;show Calls _ _ #[.agg #[.int .i64 W.field.wide, .int .i64 W.field.high, .slice eX W.field.aW.length ff, .slice fU W.aU.length fI, .slice fV W.bj.length gd, .slice fw W.br.length fN, .slice e5 W.ak.length fA, .int .i64 W.next, .int .i64 W.now]] _ _;have cx:=k5 w (.cells (ag.cells ⟨eX,fU,fV,fw,e5,ff,fI,gd,fN,fA⟩ W).toArray 28);have iU:=aQO (aQ.new w (ag.cells ⟨eX,fU,fV,fw,e5,ff,fI,gd,fN,fA⟩ W) 28 (0,0));have l8:=aQO (bP.keep cx);obtain ⟨w0,iW⟩:∃ w0,Hid (w.alloc (.cells (ag.cells ⟨eX,fU,fV,fw,e5,ff,fI,gd,fN,fA⟩ W).toArray 28)=w0):=⟨_,aQO rfl⟩;rw [iW.out] at cx l8;have iU:Hid (aQ w0 w.heap.size (ag.cells ⟨eX,fU,fV,fw,e5,ff,fI,gd,fN,fA⟩ W) 28 (0,0)):=by rw [← iW.out];exact iU
 obtain ⟨nm,sZ⟩:∃ n,Hid (W.br.length=n):=⟨_,aQO rfl⟩;obtain ⟨LO,zw⟩:∃ n,Hid (W.field.aW.length=n):=⟨_,aQO rfl⟩;have hle:nm≤9223372036854775807:=by have:=bP.M.d_;rw [sZ.out] at this;exact this
 have o3:Hid (w.alloc (.cells #[.int .i64 W.field.wide, .int .i64 W.field.high, .slice eX LO ff, .slice fU W.aU.length fI, .slice fV W.bj.length gd, .slice fw nm fN, .slice e5 W.ak.length fA, .int .i64 W.next, .int .i64 W.now] 28)=w0):=by rw [← iW.out,← sZ.out,← zw.out];rfl
 obtain ⟨bW,c1,c2,c3,c4,c5,dA,dS,eG⟩:=ag.sJ iU.out;rw [zw.out] at c2;rw [sZ.out] at c5;clear bP;by_cases hlen:nm=LO
 ·subst hlen;have Bh:Hid (∀ j,j<0→W.xf j=true):=aQO λ j ay=>absurd ay (by omega);go_enter func90,ntmps90;rw [zw.out,sZ.out];go_wp2_with fail
  rw [o3.out];go_loopw [3,4,16] (λ _ _ gU wr=>∃ k:Nat,k≤nm∧gU= .int .i64 (k:Int)∧Hid (∀ j,j<k→W.xf j=true)∧Hid (wr=w0)) (λ _ _ gU _=>nm - (intOf gU).toNat)
  case atStart=>exact ⟨0,aRE _,rfl,Bh,rfl⟩
  case round =>
   clear Bh bW c1 c2 c3 c4 c5 dA dS eG;obtain ⟨k,av,rfl,hO,F7⟩:=hrel;obtain ⟨bW,c1,c2,c3,c4,c5,dA,dS,eG⟩:=ag.sJ (show aQ wr w.heap.size (ag.cells ⟨eX,fU,fV,fw,e5,ff,fI,gd,fN,fA⟩ W) 28 (0,0) by rw [F7.out];exact iU.out);rw [zw.out] at c2;rw [sZ.out] at c5;have lX:Below w.heap.size w wr:=by rw [F7.out];exact cx
   by_cases bA:k<nm
   ·obtain ⟨p,hp⟩:=hG (l:=W.field.aW) (i:=k) (by rw [zw.out];exact bA);obtain ⟨m,hm⟩:=hG (l:=W.br) (i:=k) (by rw [sZ.out];exact bA);have J4:bK.aI 8 wr eX ff W.field.aW:=by rw [F7.out];exact l8.out.P
    have aew:bK.aI 8 wr fw fN W.br:=by rw [F7.out];exact l8.out.M
    obtain ⟨b,o,rfl,jg⟩:=E5 J4 (by rw [zw.out];omega);have LX:=jg k p hp;obtain ⟨aHH,aNe,rfl,ae6⟩:=E5 aew (by rw [sZ.out];omega);have m0:=ae6 k m hm;have ea:W.xf k=(cL m 0 1000000 && (decide (m≤0) || p == 3)):=by
     unfold ag.xf;rw [aQK,hm,aQK,hp];rfl
    have lS:=aQO (λ (V:World)=>RH m 0 1000000 V);have kK:=aQO ea;have pB:(k:Int)<(nm:Int):=by omega
    have pz:(0:Int)≤(k:Int):=by omega
    clear J4 aew jg ae6 hp hm ea;cases γ:cL m 0 1000000 with
    | false =>
     rw [γ] at lS;have bT:Hid (W.oJ=false):=ag.aix (k:=k) (by rw [sZ.out];exact bA) (by rw [kK.out,γ];rfl);clear γ;go_wp2_with fail
     refine (lS.out _).mono ?_;rintro e w' ⟨rfl,rfl⟩;go_wp2_with fail
     go_ret;exact ⟨hW bT.out.symm,lX⟩
    | true =>
     rw [γ] at lS;by_cases ab:m≤0
     ·have hd:decide (0<m)=false:=by simp;omega
      have oZ:Hid (∀ j,j<k+1→W.xf j=true):=by
       intro j ay;by_cases gK:j<k
       ·exact hO.out j gK
       ·obtain rfl:j=k:=by omega
        rw [kK.out,γ,aRi ab];rfl
      clear γ;go_wp2_with fail
      refine (lS.out _).mono ?_;rintro e w' ⟨rfl,rfl⟩;go_wp2_with fail
      go_roundw
      case rel=>exact ⟨k+1,by omega,by go_num,oZ,F7⟩
      case measure=>simp [intOf];omega
     ·have hd:decide (0<m)=true:=by simp;omega
      by_cases aw:p=3
      ·subst aw;have oZ:Hid (∀ j,j<k+1→W.xf j=true):=by
        intro j ay;by_cases gK:j<k
        ·exact hO.out j gK
        ·obtain rfl:j=k:=by omega
         rw [kK.out,γ];simp
       clear γ ab;go_wp2_with fail
       refine (lS.out _).mono ?_;rintro e w' ⟨rfl,rfl⟩;go_wp2_with fail
       go_roundw
       case rel=>exact ⟨k+1,by omega,by go_num,oZ,F7⟩
       case measure=>simp [intOf];omega
      ·have bT:Hid (W.oJ=false):=ag.aix (k:=k) (by rw [sZ.out];exact bA) (by rw [kK.out,aRm ab,beq_false_of_ne aw];simp);have G0:(p == 3)=false:=by simpa using aw
       clear γ ab aw;go_wp2_with fail
       refine (lS.out _).mono ?_;rintro e w' ⟨rfl,rfl⟩;go_wp2_with fail
       go_ret;exact ⟨hW bT.out.symm,lX⟩
   ·have qN:Hid (W.oJ=true):=ag.aiy (by rw [sZ.out,zw.out]) λ j ay=>hO.out j (by rw [sZ.out] at ay;omega);clear hO;go_wp2_with fail
    go_ret;exact ⟨hW qN.out.symm,lX⟩
 ·have qN:Hid (W.oJ=false):=ag.ayG (by rw [sZ.out,zw.out];exact hlen);have hd:((nm:Int) != (LO:Int))=true:=by simp;omega
  rw [qN.out];go_enter func90,ntmps90;rw [zw.out,sZ.out];go_wp2_with fail
  go_ret;rw [o3.out];exact ⟨Z,cx⟩
end
section
theorem oP {n lo ar:Int} {b:Bool} (h:cL n lo ar=b) (w:World):Calls prog 127 #[.int .i64 n, .int .i64 lo, .int .i64 ar] w λ e w'=>e= .returned (.bool b)∧w=w':=by
 have:=RH n lo ar w;rw [h] at this;exact this
theorem dy.drewN {gg:Type} {key:gg→Value} {w:World} {b:Nat} {l:List (gg×Int×Nat)} {clock:Nat} (h:dy key w b l clock) (n:Nat):dy key (w.drewN n) b l clock:=⟨h.fl,h.born,h.stamps⟩
theorem ac6 (w:World):w.drewN 1=w.drew:=rfl
theorem aQ.of_heap {w w':World} {g:Nat} {cur:List Value} {e:TypeId} {aA:Nat×Nat} (h:aQ w g cur e aA) (fM:w'.heap[g]? =w.heap[g]?):aQ w' g cur e aA:=fM.trans h
theorem adL {w:World} {b:Nat} {l:List (ax×Int×Nat)} {k6:Nat} (h:dy ax.key w b l k6) (hw:∀ e∈l,e.1.ok) (hn:(l.map (·.1)).Nodup) (x:ax) (hx:x.ok) (v:Int) (hv:(dy.get l x).getD 0=v):
  ∃ (st:Nat) (er:List (ax×Int×Nat)) (c1:Nat) (xv rI:World),
   (∀ n,(Instr.lookup 205 (.map (some b)) (.agg #[.int .i64 x.x, .int .i64 x.y]) false).run prog (w.drewN n)= .ok (.int .i64 v) (w.drewN n))∧
   (∀ n,(Instr.mapEntry 205 (.map (some b)) (.agg #[.int .i64 x.x, .int .i64 x.y])).run prog (w.drewN n)= .ok (.tuple #[.int .i64 v, .int .i64 (st:Int)]) (xv.drewN n))∧
   (∀ n,(Instr.lookup 205 (.map (some b)) (.agg #[.int .i64 x.x, .int .i64 x.y]) false).run prog (xv.drewN n)= .ok (.int .i64 v) (xv.drewN n))∧
   (∀ n,(Instr.entryStore 205 (.map (some b)) (.int .i64 (st:Int)) (.int .i64 (v+1))).run prog (xv.drewN n)= .ok () (rI.drewN n))∧
   (∀ n,(Instr.lookup 205 (.map (some b)) (.agg #[.int .i64 x.x, .int .i64 x.y]) false).run prog (rI.drewN n)= .ok (.int .i64 (v+1)) (rI.drewN n))∧
   dy ax.key rI b (dy.put l k6 x (v+1)) (dy.tick l k6 x)∧
   (∀ p:Addr,p.block≠b→xv.cell? p=w.cell? p)∧(∀ p:Addr,p.block≠b→rI.cell? p=w.cell? p)∧
   ∀ {B:Nat} {a:World},B≤b→(Below B a w→Below B a rI)∧(∀ g,g≠b→rI.heap[g]? =w.heap[g]?):=by
 obtain ⟨st,er,dJ,a_,bh,cD,jr,JE,JF⟩:=dy.entry ax.yE underlying205 aU2 h hw hn x hx;have B_:=λ n=>(dy.lookup (w:=w.drewN n) ax.yE underlying205 (aU2 _) (h.drewN n) hw hn x hx).1;have B':=λ n=>(dy.lookup (w:=(iz w b (er.map (dB ax.key)).toArray dJ).drewN n) ax.yE underlying205 (aU2 _) (bh.drewN n) cD jr x hx).1;have hp:=(JF (v+1) 0).2;have Ca:=λ n=>(dy.lookup (w:=(iz w b ((dy.put l k6 x (v+1)).map (dB ax.key)).toArray (dy.tick l k6 x)).drewN n) ax.yE underlying205 (aU2 _) (hp.drewN n) (dy.W6 hw hx) (dy.Hg hn k6 x (v+1)) x hx).1;simp only [JE,hv,aRU] at B_ B' a_;simp only [dy.Ab,aQZ,aRU] at Ca;exact ⟨st,er,dJ,_,_,B_,a_,B',λ n=>(JF (v+1) n).1,Ca,hp,λ p hp=>aVT (Ma hp),λ p hp=>aVT (Ma hp),
  fun {B a} bc=>⟨λ Φ=>aBy Φ bc,λ g aM=>Ma aM⟩⟩
theorem aCw (a:ag.cc) (W:ag) (w:World) (bP:ag.Has w a W) (aF:W.field.bn=0) (gI:W.aU.length≤8) (wO:W.ak.length≤100):
  Calls prog 91 #[.agg (ag.cells a W).toArray] w λ e w'=>e= .returned (.bool W.kd)∧Below w.heap.size w w':=by
 obtain ⟨eX,fU,fV,fw,e5,ff,fI,gd,fN,fA⟩:=a;show Calls _ _ #[.agg #[.int .i64 W.field.wide, .int .i64 W.field.high, .slice eX W.field.aW.length ff, .slice fU W.aU.length fI, .slice fV W.bj.length gd, .slice fw W.br.length fN, .slice e5 W.ak.length fA, .int .i64 W.next, .int .i64 W.now]] _ _;have cx:=k5 w (.cells (ag.cells ⟨eX,fU,fV,fw,e5,ff,fI,gd,fN,fA⟩ W).toArray 28);have iU:=aQO (aQ.new w (ag.cells ⟨eX,fU,fV,fw,e5,ff,fI,gd,fN,fA⟩ W) 28 (0,0));have l8:=aQO (bP.keep cx);obtain ⟨w0,iW⟩:∃ w0,Hid (w.alloc (.cells (ag.cells ⟨eX,fU,fV,fw,e5,ff,fI,gd,fN,fA⟩ W).toArray 28)=w0):=⟨_,aQO rfl⟩;rw [iW.out] at cx l8;have iU:Hid (aQ w0 w.heap.size (ag.cells ⟨eX,fU,fV,fw,e5,ff,fI,gd,fN,fA⟩ W) 28 (0,0)):=by rw [← iW.out];exact iU
 obtain ⟨eg,h8⟩:∃ n,Hid (W.ak.length=n):=⟨_,aQO rfl⟩;obtain ⟨jU,jZ⟩:∃ n,Hid (W.aU.length=n):=⟨_,aQO rfl⟩;have gI:jU≤8:=by rw [← jZ.out];exact gI
 have wO:eg≤100:=by rw [← h8.out];exact wO
 have v_:=aQO aF;have Bi:=aQO bP;obtain ⟨EX,tJ⟩:∃ EX,wrap64 (W.next - 1)=EX:=⟨_,rfl⟩;have Z6:=aQO tJ;have o3:Hid (w.alloc (.cells #[.int .i64 W.field.wide, .int .i64 W.field.high, .slice eX W.field.aW.length ff, .slice fU jU fI, .slice fV W.bj.length gd, .slice fw W.br.length fN, .slice e5 eg fA, .int .i64 W.next, .int .i64 W.now] 28)=w0):=by rw [← iW.out,← jZ.out,← h8.out];rfl
 obtain ⟨bW,c1,c2,c3,c4,c5,dA,dS,eG⟩:=ag.sJ iU.out;rw [jZ.out] at c3;rw [h8.out] at dA;clear bP aF;have PK:=@run_makeMap prog;have PI:=dy.made (key:=ax.key) w0;have Vs:=k5 w0 (.map #[] 0);obtain ⟨alr,aad⟩:∃ alr,Hid (w0.alloc (.map #[] 0)=alr):=⟨_,aQO rfl⟩;rw [aad.out] at PI Vs;have f_:w0.heap.size=w.heap.size+1:=by rw [← iW.out];simp
 rw [f_] at PI;have Sq:=aQO PI;have Bh:Hid (∀ j,j<0→W.xg j=true):=aQO λ j ay=>absurd ay (by omega);clear PI;go_enter func91,ntmps91;rw [jZ.out,h8.out];go_wp2_with fail
 rw [o3.out,aad.out];have Z4:Hid (bK.aI 8 w eX ff W.field.aW):=aQO Bi.out.P;have amQ:Hid (bg.rep.aI 56 w e5 fA W.ak):=aQO Bi.out.T;have aJu:=wO;have Ef:=iU.out.later Vs;have aeQ:=cx.trans (Vs.mono cx.size);clear bW c1 c2 c3 c4 c5 dA dS eG PK;obtain ⟨eJ,Sr⟩:∃ eJ,Hid (w.heap.size+1=eJ):=⟨_,aQO rfl⟩;rw [Sr.out];rw [Sr.out] at Sq;go_loopw [3,6,7,8,9,14] (λ aym _ _ _ _ gU wr=>∃ (k:Nat) (l:List (ax×Int×Nat)) (k6:Nat),k≤eg∧gU= .int .i64 (k:Int)∧aym= .int .i64 (W.jt k)∧Hid (∀ j,j<k→W.xg j=true)∧Hid (dy ax.key wr eJ l k6)∧Hid (∀ e∈l,e.1.ok)∧Hid ((l.map (·.1)).Nodup)∧Hid (∀ c,dy.get l c=if (W.iO k).contains c=true then some 1 else none)∧Hid (aQ wr w.heap.size (ag.cells ⟨eX,fU,fV,fw,e5,ff,fI,gd,fN,fA⟩ W) 28 (0,0))∧Below w.heap.size w wr) (λ _ _ _ _ _ gU _=>eg - (intOf gU).toNat)
 case atStart=>exact ⟨0, [],0,aRE _,rfl,rfl,Bh,Sq,(λ e he=>by simp at he),aU7,(λ c=>by simp [dy.get,ag.iO]),Ef,aeQ⟩
 case round =>
  clear Bh Sq Ef aeQ;obtain ⟨k,l,k6,av,rfl,rfl,hO,kJ,Nz,Nr,Bf,F1,lX⟩:=hrel;obtain ⟨bW,c1,c2,c3,c4,c5,dA,dS,eG⟩:=ag.sJ F1.out;rw [jZ.out] at c3;rw [h8.out] at dA;by_cases bA:k<eg
  ·obtain ⟨t,aD⟩:=hG (l:=W.ak) (i:=k) (by rw [h8.out];exact bA);have aey:=amQ.out.keep lX;obtain ⟨b,o,rfl,jg⟩:=bg.at_ aey (by rw [h8.out];omega);obtain ⟨LX,eK,fr,l0,vB,aNg,aNh⟩:=jg k t aD;obtain ⟨ie,rp⟩:∃ ie,wrap64 (W.jt k+1)=ie:=⟨_,rfl⟩;have ea:W.xg k=(W.LR ie EX t && !(W.iO k).contains t.spot):=by
    unfold ag.xg;rw [aQK,aD,rp,Z6.out];rfl
   unfold ag.LR at ea;rw [jZ.out] at ea;have afP:W.jt (k+1)=t.id:=by
    unfold ag.jt;rw [aQV (by omega),aQK,aUx,aD];rfl
   have agh:W.iO (k+1)=W.iO k++ [t.spot]:=by
    unfold ag.iO;rw [aRh (by rw [h8.out];exact bA),aRc];have:W.ak[k]'(by rw [h8.out];exact bA)=t:=by
     rw [aQN (by rw [h8.out];exact bA)] at aD;exact aQL aD
    rw [this];rfl
   have Z5:=aQO afP;have aab:=aQO agh;have cK:=k5 wr (.cells #[.int .i64 t.id, .int .i64 t.owner, .int .i64 t.kind, .int .i64 t.spot.x, .int .i64 t.spot.y, .int .i64 t.cY, .int .i64 t.load] 66);have aet:=aQ.new wr t.cells 66 (0,0);obtain ⟨aP,I4⟩:∃ aP,Hid (wr.alloc (.cells #[.int .i64 t.id, .int .i64 t.owner, .int .i64 t.kind, .int .i64 t.spot.x, .int .i64 t.spot.y, .int .i64 t.cY, .int .i64 t.load] 66)=aP):=⟨_,aQO rfl⟩;rw [I4.out] at cK;have Be:Hid (aQ aP wr.heap.size t.cells 66 (0,0)):=by rw [← I4.out];exact aet
   have VZ:eJ<wr.heap.size:=kJ.out.lt;have afI:w.heap.size<eJ:=by have:=Sr.out;omega
   have pB:(k:Int)<(eg:Int):=by omega
   have pz:(0:Int)≤(k:Int):=by omega
   have aJS:(0:Int)≤(jU:Int)∧(jU:Int)≤8:=by omega
   clear aey jg aD afP agh aet tJ;have tJ:=Z6.out;by_cases pA:t.kind=1
   ·have zC:=aQO pA;rw [pA] at fr;clear pA;have IU:=aQO (λ V:World=>ahN V);have KD:ag.ju 1=10:=rfl;have KF:ag.AG 1=5:=rfl;rw [zC.out,KD,KF] at ea;have kK:=aQO ea;clear KD KF ea;have Sw:Hid (wr.alloc (.cells #[.int .i64 t.id, .int .i64 t.owner, .int .i64 1, .int .i64 t.spot.x, .int .i64 t.spot.y, .int .i64 t.cY, .int .i64 t.load] 66)=aP):=by rw [← I4.out,zC.out];rfl
    go_wp2_with fail
    rw [Sw.out];refine (IU.out _).mono ?_;rintro e cr ⟨rfl,bu⟩;have vh:=cK.trans (bu.mono cK.size);have dF:=k5 cr (.cells #[.int .i64 10, .int .i64 1, .int .i64 1, .int .i64 5] 207);have Ad:=aQ.new cr [.int .i64 10, .int .i64 1, .int .i64 1, .int .i64 5] 207 (0,0);obtain ⟨w3,DA⟩:∃ w3,Hid (cr.alloc (.cells #[.int .i64 10, .int .i64 1, .int .i64 1, .int .i64 5] 207)=w3):=⟨_,aQO rfl⟩;rw [DA.out] at dF;have Ad:aQ w3 cr.heap.size [.int .i64 10, .int .i64 1, .int .i64 1, .int .i64 5] 207 (0,0):=by rw [← DA.out];exact Ad
    have Ap:w3.cell? ⟨cr.heap.size,0,none⟩=some (.int .i64 10):=Ad.cell 0;have ra:=vh.trans (dF.mono vh.size);have Ds:=aQO ((Be.out.later bu).later dF);have IV:=aQO (kJ.out.later ra);have Dr:=aQO (F1.out.later ra);have Eo:=lX.trans (ra.mono lX.size);have IP:=aQO (Z4.out.keep Eo);obtain ⟨t0,t1,t2,t3,t4,t5,t6⟩:=bg.fl ((Be.out.later bu));rw [zC.out] at t2;clear bW c1 c2 c3 c4 c5 dA dS eG;obtain ⟨bW,c1,c2,c3,c4,c5,dA,dS,eG⟩:=ag.sJ (F1.out.later vh);rw [jZ.out] at c3;rw [h8.out] at dA;have aeT:wr.heap.size<cr.heap.size:=by have:=bu.size;have:=Be.out.lt;omega
    have aeU:w.heap.size<cr.heap.size:=by have:=VZ;omega
    go_wp2_with fail
    rw [DA.out];clear t0 t1 t2 t3 t4 t5 t6 bW c1 c2 c3 c4 c5 dA dS eG;obtain ⟨t0,t1,t2,t3,t4,t5,t6⟩:=bg.fl Ds.out;obtain ⟨bW,c1,c2,c3,c4,c5,dA,dS,eG⟩:=ag.sJ Dr.out;rw [jZ.out] at c3;rw [h8.out] at dA;rw [zC.out] at t2;clear bu Ad dF vh;cases aF:cL t.id ie EX with
    | false =>
     have bT:Hid (W.kd=false):=ag.ua (k:=k) (by rw [h8.out];exact bA) (by rw [kK.out,aF];simp);have zr:=aQO aF;clear aF;refine (oP zr.out _).mono ?_;rintro e w' ⟨rfl,rfl⟩;go_wp2_with fail
     go_ret;exact ⟨hW bT.out.symm,Eo⟩
    | true =>
     have zr:=aQO aF;clear aF;refine (oP zr.out _).mono ?_;rintro e w' ⟨rfl,rfl⟩;go_wp2_with fail
     cases γ:cL t.owner 0 ((jU:Int) - 1) with
     | false =>
      have bT:Hid (W.kd=false):=ag.ua (k:=k) (by rw [h8.out];exact bA) (by rw [kK.out,γ];simp);have dp:=aQO γ;clear γ;refine (oP dp.out _).mono ?_;rintro e w' ⟨rfl,rfl⟩;go_wp2_with fail
      go_ret;exact ⟨hW bT.out.symm,Eo⟩
     | true =>
      have dp:=aQO γ;clear γ;refine (oP dp.out _).mono ?_;rintro e w' ⟨rfl,rfl⟩;go_wp2_with fail
      cases ab:W.field.ground t.spot with
      | false =>
       have bT:Hid (W.kd=false):=ag.ua (k:=k) (by rw [h8.out];exact bA) (by rw [kK.out,ab];simp);have wb:=aQO ab;clear ab;have kI:=J1 W.field t.spot eX ff _ IP.out v_.out;rw [wb.out] at kI;refine kI.mono ?_;rintro e n1 ⟨rfl,dt⟩;have El:=ra.trans (dt.mono ra.size);have wU:=lX.trans (El.mono lX.size);have Dt:=aQO (Ds.out.later dt);have IW:=aQO (IV.out.later dt);have IN:=aQO (Dr.out.later dt);clear t0 t1 t2 t3 t4 t5 t6 bW c1 c2 c3 c4 c5 dA dS eG kI;obtain ⟨t0,t1,t2,t3,t4,t5,t6⟩:=bg.fl Dt.out;have Ap:=cell_later dt Ap;go_wp2_with fail
       go_ret;exact ⟨hW bT.out.symm,wU⟩
      | true =>
       have wb:=aQO ab;clear ab;have kI:=J1 W.field t.spot eX ff _ IP.out v_.out;rw [wb.out] at kI;refine kI.mono ?_;rintro e n1 ⟨rfl,dt⟩;have El:=ra.trans (dt.mono ra.size);have wU:=lX.trans (El.mono lX.size);have Dt:=aQO (Ds.out.later dt);have IW:=aQO (IV.out.later dt);have IN:=aQO (Dr.out.later dt);clear t0 t1 t2 t3 t4 t5 t6 bW c1 c2 c3 c4 c5 dA dS eG kI;obtain ⟨t0,t1,t2,t3,t4,t5,t6⟩:=bg.fl Dt.out;have Ap:=cell_later dt Ap;go_wp2_with fail
       cases aw:cL t.cY 1 10 with
       | false =>
        have bT:Hid (W.kd=false):=ag.ua (k:=k) (by rw [h8.out];exact bA) (by rw [kK.out,aw];simp);have zt:=aQO aw;clear aw;refine (oP zt.out _).mono ?_;rintro e w' ⟨rfl,rfl⟩;go_wp2_with fail
        go_ret;exact ⟨hW bT.out.symm,wU⟩
       | true =>
        have zt:=aQO aw;clear aw;refine (oP zt.out _).mono ?_;rintro e w' ⟨rfl,rfl⟩;go_wp2_with fail
        cases aX:cL t.load 0 5 with
        | false =>
         have bT:Hid (W.kd=false):=ag.ua (k:=k) (by rw [h8.out];exact bA) (by rw [kK.out,aX];simp);have zu:=aQO aX;clear aX;refine (oP zu.out _).mono ?_;rintro e w' ⟨rfl,rfl⟩;go_wp2_with fail
         go_ret;exact ⟨hW bT.out.symm,wU⟩
        | true =>
         have zu:=aQO aX;clear aX;refine (oP zu.out _).mono ?_;rintro e w' ⟨rfl,rfl⟩;go_wp2_with fail
         have Am:t.spot.ok:=by
          obtain ⟨i1,i2,i3,i4,i5,i6⟩:=aE.idx v_.out (aE.jO wb.out);obtain ⟨g1,g2,g3,g4,_,_⟩:=aE.j5 v_.out;exact ⟨bM.2 (by omega),bM.2 (by omega)⟩
         obtain ⟨v,zE⟩:∃ v,Hid ((dy.get l t.spot).getD 0=v):=⟨_,aQO rfl⟩;obtain ⟨st,er,dJ,xv,rI,o4⟩:=adL IW.out Nz.out Nr.out t.spot Am v zE.out;obtain ⟨B_,a_,B',f1,Ca,Ev,KV,KW,Ah⟩:=o4;have awt:0≤v∧v≤1:=by
          rw [← zE.out,Bf.out];split<;>simp
         have Sp:=aQO Ev;have I3:=aQO KV;have zB:=aQO KW;have GY:=(Ah (Nat.le_of_lt afI)).1 wU;have zp:=aQO (IN.out.of_heap ((Ah (B:=0) (a:=n1) (aRE _)).2 _ (by omega)));have vC:xv.cell? ⟨wr.heap.size,3,none⟩=some (.int .i64 t.spot.x):=(I3.out _ (by simp;omega)).trans t3;have E4:xv.cell? ⟨wr.heap.size,4,none⟩=some (.int .i64 t.spot.y):=(I3.out _ (by simp;omega)).trans t4;have CF:rI.cell? ⟨wr.heap.size,0,none⟩=some (.int .i64 t.id):=(zB.out _ (by simp;omega)).trans t0;have tZ:rI.cell? ⟨wr.heap.size,3,none⟩=some (.int .i64 t.spot.x):=(zB.out _ (by simp;omega)).trans t3;have XH:rI.cell? ⟨wr.heap.size,4,none⟩=some (.int .i64 t.spot.y):=(zB.out _ (by simp;omega)).trans t4;have g1:=B_ 1;have g2:=a_ 1;have g3:=B' 1;have g4:=f1 1;have g5:=Ca 1;clear Ev KV KW Ah B_ a_ B' f1 Ca;simp only [ac6] at g1 g2 g3 g4 g5;cases ri:(W.iO k).contains t.spot with
         | true =>
          have oy:v=1:=by rw [← zE.out,Bf.out,ri];rfl
          subst oy;rw [show (1:Int)+1=2 from rfl] at g4 g5;have bT:Hid (W.kd=false):=ag.ua (k:=k) (by rw [h8.out];exact bA) (by rw [kK.out,ri];simp);clear ri
          go_region
          go_wp2_with fail
          go_ret;exact ⟨hW bT.out.symm,below_drewN GY 1⟩
         | false =>
          have oy:v=0:=by rw [← zE.out,Bf.out,ri];rfl
          subst oy;rw [show (0:Int)+1=1 from rfl] at g4 g5;have oZ:Hid (∀ j,j<k+1→W.xg j=true):=by
           intro j ay;by_cases gK:j<k
           ·exact hO.out j gK
           ·obtain rfl:j=k:=by omega
            rw [kK.out,zr.out,dp.out,wb.out,zt.out,zu.out,ri];rfl
          have Sm:Hid (∀ c,dy.get (dy.put l k6 t.spot (0+1)) c=if (W.iO (k+1)).contains c=true then some 1 else none):=by
           intro c;rw [dy.Ab,aab.out,Bf.out];by_cases Er:c=t.spot
           ·simp [Er]
           ·rw [aQV Er];simp [Er]
          have Sy:Hid (∀ e∈dy.put l k6 t.spot (0+1),e.1.ok):=dy.W6 Nz.out Am;have Sn:Hid (((dy.put l k6 t.spot (0+1)).map (·.1)).Nodup):=dy.Hg Nr.out _ _ _;clear ri Am
          go_region
          go_wp2_with fail
          go_roundw
          case rel=>exact ⟨k+1,_,_,by omega,by go_num,by rw [Z5.out],oZ,Sp.out.drewN 1,Sy,Sn,Sm,zp.out.drewN 1,below_drewN GY 1⟩
          case measure=>simp [intOf];omega
   ·by_cases fZ:t.kind=2
    ·have zC:=aQO fZ;rw [fZ] at fr;clear pA fZ;have IU:=aQO (λ V:World=>ahO V);have KD:ag.ju 2=20:=rfl;have KF:ag.AG 2=0:=rfl;rw [zC.out,KD,KF] at ea;have kK:=aQO ea;clear KD KF ea;have Sw:Hid (wr.alloc (.cells #[.int .i64 t.id, .int .i64 t.owner, .int .i64 2, .int .i64 t.spot.x, .int .i64 t.spot.y, .int .i64 t.cY, .int .i64 t.load] 66)=aP):=by rw [← I4.out,zC.out];rfl
     go_wp2_with fail
     rw [Sw.out];refine (IU.out _).mono ?_;rintro e cr ⟨rfl,bu⟩;have vh:=cK.trans (bu.mono cK.size);have dF:=k5 cr (.cells #[.int .i64 20, .int .i64 2, .int .i64 4, .int .i64 12] 207);have Ad:=aQ.new cr [.int .i64 20, .int .i64 2, .int .i64 4, .int .i64 12] 207 (0,0);obtain ⟨w3,DA⟩:∃ w3,Hid (cr.alloc (.cells #[.int .i64 20, .int .i64 2, .int .i64 4, .int .i64 12] 207)=w3):=⟨_,aQO rfl⟩;rw [DA.out] at dF;have Ad:aQ w3 cr.heap.size [.int .i64 20, .int .i64 2, .int .i64 4, .int .i64 12] 207 (0,0):=by rw [← DA.out];exact Ad
     have Ap:w3.cell? ⟨cr.heap.size,0,none⟩=some (.int .i64 20):=Ad.cell 0;have ra:=vh.trans (dF.mono vh.size);have Ds:=aQO ((Be.out.later bu).later dF);have IV:=aQO (kJ.out.later ra);have Dr:=aQO (F1.out.later ra);have Eo:=lX.trans (ra.mono lX.size);have IP:=aQO (Z4.out.keep Eo);obtain ⟨t0,t1,t2,t3,t4,t5,t6⟩:=bg.fl ((Be.out.later bu));rw [zC.out] at t2;clear bW c1 c2 c3 c4 c5 dA dS eG;obtain ⟨bW,c1,c2,c3,c4,c5,dA,dS,eG⟩:=ag.sJ (F1.out.later vh);rw [jZ.out] at c3;rw [h8.out] at dA;have aeT:wr.heap.size<cr.heap.size:=by have:=bu.size;have:=Be.out.lt;omega
     have aeU:w.heap.size<cr.heap.size:=by have:=VZ;omega
     go_wp2_with fail
     rw [DA.out];clear t0 t1 t2 t3 t4 t5 t6 bW c1 c2 c3 c4 c5 dA dS eG;obtain ⟨t0,t1,t2,t3,t4,t5,t6⟩:=bg.fl Ds.out;obtain ⟨bW,c1,c2,c3,c4,c5,dA,dS,eG⟩:=ag.sJ Dr.out;rw [jZ.out] at c3;rw [h8.out] at dA;rw [zC.out] at t2;clear bu Ad dF vh;cases aF:cL t.id ie EX with
     | false =>
      have bT:Hid (W.kd=false):=ag.ua (k:=k) (by rw [h8.out];exact bA) (by rw [kK.out,aF];simp);have zr:=aQO aF;clear aF;refine (oP zr.out _).mono ?_;rintro e w' ⟨rfl,rfl⟩;go_wp2_with fail
      go_ret;exact ⟨hW bT.out.symm,Eo⟩
     | true =>
      have zr:=aQO aF;clear aF;refine (oP zr.out _).mono ?_;rintro e w' ⟨rfl,rfl⟩;go_wp2_with fail
      cases γ:cL t.owner 0 ((jU:Int) - 1) with
      | false =>
       have bT:Hid (W.kd=false):=ag.ua (k:=k) (by rw [h8.out];exact bA) (by rw [kK.out,γ];simp);have dp:=aQO γ;clear γ;refine (oP dp.out _).mono ?_;rintro e w' ⟨rfl,rfl⟩;go_wp2_with fail
       go_ret;exact ⟨hW bT.out.symm,Eo⟩
      | true =>
       have dp:=aQO γ;clear γ;refine (oP dp.out _).mono ?_;rintro e w' ⟨rfl,rfl⟩;go_wp2_with fail
       cases ab:W.field.ground t.spot with
       | false =>
        have bT:Hid (W.kd=false):=ag.ua (k:=k) (by rw [h8.out];exact bA) (by rw [kK.out,ab];simp);have wb:=aQO ab;clear ab;have kI:=J1 W.field t.spot eX ff _ IP.out v_.out;rw [wb.out] at kI;refine kI.mono ?_;rintro e n1 ⟨rfl,dt⟩;have El:=ra.trans (dt.mono ra.size);have wU:=lX.trans (El.mono lX.size);have Dt:=aQO (Ds.out.later dt);have IW:=aQO (IV.out.later dt);have IN:=aQO (Dr.out.later dt);clear t0 t1 t2 t3 t4 t5 t6 bW c1 c2 c3 c4 c5 dA dS eG kI;obtain ⟨t0,t1,t2,t3,t4,t5,t6⟩:=bg.fl Dt.out;have Ap:=cell_later dt Ap;go_wp2_with fail
        go_ret;exact ⟨hW bT.out.symm,wU⟩
       | true =>
        have wb:=aQO ab;clear ab;have kI:=J1 W.field t.spot eX ff _ IP.out v_.out;rw [wb.out] at kI;refine kI.mono ?_;rintro e n1 ⟨rfl,dt⟩;have El:=ra.trans (dt.mono ra.size);have wU:=lX.trans (El.mono lX.size);have Dt:=aQO (Ds.out.later dt);have IW:=aQO (IV.out.later dt);have IN:=aQO (Dr.out.later dt);clear t0 t1 t2 t3 t4 t5 t6 bW c1 c2 c3 c4 c5 dA dS eG kI;obtain ⟨t0,t1,t2,t3,t4,t5,t6⟩:=bg.fl Dt.out;have Ap:=cell_later dt Ap;go_wp2_with fail
        cases aw:cL t.cY 1 20 with
        | false =>
         have bT:Hid (W.kd=false):=ag.ua (k:=k) (by rw [h8.out];exact bA) (by rw [kK.out,aw];simp);have zt:=aQO aw;clear aw;refine (oP zt.out _).mono ?_;rintro e w' ⟨rfl,rfl⟩;go_wp2_with fail
         go_ret;exact ⟨hW bT.out.symm,wU⟩
        | true =>
         have zt:=aQO aw;clear aw;refine (oP zt.out _).mono ?_;rintro e w' ⟨rfl,rfl⟩;go_wp2_with fail
         cases aX:cL t.load 0 0 with
         | false =>
          have bT:Hid (W.kd=false):=ag.ua (k:=k) (by rw [h8.out];exact bA) (by rw [kK.out,aX];simp);have zu:=aQO aX;clear aX;refine (oP zu.out _).mono ?_;rintro e w' ⟨rfl,rfl⟩;go_wp2_with fail
          go_ret;exact ⟨hW bT.out.symm,wU⟩
         | true =>
          have zu:=aQO aX;clear aX;refine (oP zu.out _).mono ?_;rintro e w' ⟨rfl,rfl⟩;go_wp2_with fail
          have Am:t.spot.ok:=by
           obtain ⟨i1,i2,i3,i4,i5,i6⟩:=aE.idx v_.out (aE.jO wb.out);obtain ⟨g1,g2,g3,g4,_,_⟩:=aE.j5 v_.out;exact ⟨bM.2 (by omega),bM.2 (by omega)⟩
          obtain ⟨v,zE⟩:∃ v,Hid ((dy.get l t.spot).getD 0=v):=⟨_,aQO rfl⟩;obtain ⟨st,er,dJ,xv,rI,o4⟩:=adL IW.out Nz.out Nr.out t.spot Am v zE.out;obtain ⟨B_,a_,B',f1,Ca,Ev,KV,KW,Ah⟩:=o4;have awt:0≤v∧v≤1:=by
           rw [← zE.out,Bf.out];split<;>simp
          have Sp:=aQO Ev;have I3:=aQO KV;have zB:=aQO KW;have GY:=(Ah (Nat.le_of_lt afI)).1 wU;have zp:=aQO (IN.out.of_heap ((Ah (B:=0) (a:=n1) (aRE _)).2 _ (by omega)));have vC:xv.cell? ⟨wr.heap.size,3,none⟩=some (.int .i64 t.spot.x):=(I3.out _ (by simp;omega)).trans t3;have E4:xv.cell? ⟨wr.heap.size,4,none⟩=some (.int .i64 t.spot.y):=(I3.out _ (by simp;omega)).trans t4;have CF:rI.cell? ⟨wr.heap.size,0,none⟩=some (.int .i64 t.id):=(zB.out _ (by simp;omega)).trans t0;have tZ:rI.cell? ⟨wr.heap.size,3,none⟩=some (.int .i64 t.spot.x):=(zB.out _ (by simp;omega)).trans t3;have XH:rI.cell? ⟨wr.heap.size,4,none⟩=some (.int .i64 t.spot.y):=(zB.out _ (by simp;omega)).trans t4;have g1:=B_ 1;have g2:=a_ 1;have g3:=B' 1;have g4:=f1 1;have g5:=Ca 1;clear Ev KV KW Ah B_ a_ B' f1 Ca;simp only [ac6] at g1 g2 g3 g4 g5;cases ri:(W.iO k).contains t.spot with
          | true =>
           have oy:v=1:=by rw [← zE.out,Bf.out,ri];rfl
           subst oy;rw [show (1:Int)+1=2 from rfl] at g4 g5;have bT:Hid (W.kd=false):=ag.ua (k:=k) (by rw [h8.out];exact bA) (by rw [kK.out,ri];simp);clear ri
           go_region
           go_wp2_with fail
           go_ret;exact ⟨hW bT.out.symm,below_drewN GY 1⟩
          | false =>
           have oy:v=0:=by rw [← zE.out,Bf.out,ri];rfl
           subst oy;rw [show (0:Int)+1=1 from rfl] at g4 g5;have oZ:Hid (∀ j,j<k+1→W.xg j=true):=by
            intro j ay;by_cases gK:j<k
            ·exact hO.out j gK
            ·obtain rfl:j=k:=by omega
             rw [kK.out,zr.out,dp.out,wb.out,zt.out,zu.out,ri];rfl
           have Sm:Hid (∀ c,dy.get (dy.put l k6 t.spot (0+1)) c=if (W.iO (k+1)).contains c=true then some 1 else none):=by
            intro c;rw [dy.Ab,aab.out,Bf.out];by_cases Er:c=t.spot
            ·simp [Er]
            ·rw [aQV Er];simp [Er]
           have Sy:Hid (∀ e∈dy.put l k6 t.spot (0+1),e.1.ok):=dy.W6 Nz.out Am;have Sn:Hid (((dy.put l k6 t.spot (0+1)).map (·.1)).Nodup):=dy.Hg Nr.out _ _ _;clear ri Am
           go_region
           go_wp2_with fail
           go_roundw
           case rel=>exact ⟨k+1,_,_,by omega,by go_num,by rw [Z5.out],oZ,Sp.out.drewN 1,Sy,Sn,Sm,zp.out.drewN 1,below_drewN GY 1⟩
           case measure=>simp [intOf];omega
    ·have VQ:cL t.kind 1 2=false:=pF (by omega);have bT:Hid (W.kd=false):=ag.ua (k:=k) (by rw [h8.out];exact bA) (by rw [ea,VQ];rfl);have IU:=aQO (λ V:World=>ahP t.kind V VQ);have ae8:(t.kind == 1)=false:=by simpa using pA
     clear ea VQ pA fZ;go_wp2_with fail
     rw [I4.out];refine (IU.out _).mono ?_;rintro e cr ⟨rfl,bu⟩;have vh:=cK.trans (bu.mono cK.size);obtain ⟨t0,t1,t2,t3,t4,t5,t6⟩:=bg.fl ((Be.out.later bu));clear bW c1 c2 c3 c4 c5 dA dS eG;obtain ⟨bW,c1,c2,c3,c4,c5,dA,dS,eG⟩:=ag.sJ (F1.out.later vh);have aeT:wr.heap.size<cr.heap.size:=by have:=bu.size;have:=Be.out.lt;omega
     have aeU:w.heap.size<cr.heap.size:=by have:=VZ;omega
     go_wp2_with fail
     go_ret;exact ⟨hW bT.out.symm,(lX.trans (vh.mono lX.size)).trans ((k5 _ _).mono (by omega))⟩
  ·obtain rfl:k=eg:=by omega
   have dE:∀ j,j<W.ak.length→W.xg j=true:=λ j ay=>hO.out j (by rw [h8.out] at ay;exact ay);have pE:W.kd=(cL W.next 1 1000000 && cL W.now 0 1000000):=by
    unfold ag.kd;rw [aRD.2 (λ j ay=>dE j (aRt.1 ay)),aTP]
   have zD:=aQO pE;clear dE pE tJ;cases γ:cL W.next 1 1000000 with
   | false =>
    have H1:=aQO γ;clear γ;go_wp2_with fail
    refine (oP H1.out _).mono ?_;rintro e w' ⟨rfl,rfl⟩;go_wp2_with fail
    go_ret;exact ⟨hW (by rw [zD.out,H1.out];rfl),lX⟩
   | true =>
    have Eu:=λ V=>RH W.now 0 1000000 V;have H1:=aQO γ;rw [H1.out,aTP] at zD;clear γ;generalize cL W.now 0 1000000=r2 at *
    go_wp2_with fail
    refine (oP H1.out _).mono ?_;rintro e w' ⟨rfl,rfl⟩;go_wp2_with fail
    refine (Eu _).mono ?_;rintro e w' ⟨rfl,rfl⟩;go_wp2_with fail
    go_ret;exact ⟨hW zD.out.symm,lX⟩
end
end Go.Proofs.YtlikikpgmmkjbaaGreat
