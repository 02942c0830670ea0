import Derived.Test.YtlikikpgmmkjbaaGreatBlw
set_option linter.unusedVariables false
set_option linter.unusedSimpArgs false
set_option maxRecDepth 100000
set_option maxHeartbeats 4000000
open Go.RowKit
namespace Go.Proofs.YtlikikpgmmkjbaaGreat
open Tryz
abbrev aTS:=@List.setIfInBounds_toArray
abbrev aVI:=@Go.wpQuiet_nil
abbrev aWC:=@Go.World.cell?_of_block
section
theorem aBn (a:ah.b5) (W:ah) (w:World) (bV:ah.Has w a W) (aH:W.field.bo=0) (gh:W.aW.length≤8):
    Calls prog 89 #[.agg (ah.cells a W).toArray] w λ e w'=>e= .returned (.bool W.om)∧Below w.heap.size w w':=by
  obtain ⟨eZ,gd,gg,fy,e6,fl,fN,gp,fU,fF⟩:=a;show Calls _ _ #[.agg #[.int .i64 W.field.wide, .int .i64 W.field.high, .slice eZ W.field.aZ.length fl, .slice gd W.aW.length fN, .slice gg W.bk.length gp, .slice fy W.br.length fU, .slice e6 W.ak.length fF, .int .i64 W.next, .int .i64 W.now]] _ _;obtain ⟨kq,kh⟩:∃ n,Hid (W.aW.length=n):=⟨_,aRF rfl⟩;obtain ⟨ns,An⟩:∃ n,Hid (W.bk.length=n):=⟨_,aRF rfl⟩;have gh:kq≤8:=by rw [← kh.out];exact gh
  have cF:=lx w (.cells (ah.cells ⟨eZ,gd,gg,fy,e6,fl,fN,gp,fU,fF⟩ W).toArray 28);have jl:=aRF (aR.new w (ah.cells ⟨eZ,gd,gg,fy,e6,fl,fN,gp,fU,fF⟩ W) 28 (0,0));have mE:=aRF (bV.keep cF);have w2:=aRF aH;obtain ⟨w0,jo⟩:∃ w0,Hid (w.alloc (.cells (ah.cells ⟨eZ,gd,gg,fy,e6,fl,fN,gp,fU,fF⟩ W).toArray 28)=w0):=⟨_,aRF rfl⟩;rw [jo.out] at cF mE;have jl:Hid (aR w0 w.heap.size (ah.cells ⟨eZ,gd,gg,fy,e6,fl,fN,gp,fU,fF⟩ W) 28 (0,0)):=by rw [← jo.out];exact jl
  have pB:Hid (w.alloc (.cells #[.int .i64 W.field.wide, .int .i64 W.field.high, .slice eZ W.field.aZ.length fl, .slice gd kq fN, .slice gg ns gp, .slice fy W.br.length fU, .slice e6 W.ak.length fF, .int .i64 W.next, .int .i64 W.now] 28)=w0):=by rw [← jo.out,← kh.out,← An.out];rfl
  obtain ⟨b1,c1,c2,c3,c4,c5,dD,dT,eo⟩:=ah.tO jl.out;rw [kh.out] at c3;rw [An.out] at c4;clear bV aH;by_cases hlen:ns=kq
  · subst hlen
    have Cb:Hid (∀ j,j<0→W.x4 j=true):=aRF λ j ay=>absurd ay (by omega);go_enter func89,ntmps89;rw [kh.out,An.out];go_wp2_with fail
    rw [pB.out];go_loopw [3,4,15] (λ _ _ hi wr=>∃ k:Nat,k≤ns∧hi= .int .i64 (k:Int)∧Hid (∀ j,j<k→W.x4 j=true)∧Below w0.heap.size w0 wr) (λ _ _ hi _=>ns - (intOf hi).toNat)
    case atStart=>exact ⟨0,aSo _,rfl,Cb,aR8 _ _⟩
    case round =>
      clear Cb b1 c1 c2 c3 c4 c5 dD dT eo;obtain ⟨k,ar,rfl,hY,Φ⟩:=hrel;by_cases bw:k<ns
      · obtain ⟨p,hp⟩:=iN (l:=W.aW) (i:=k) (by rw [kh.out];exact bw)
        obtain ⟨st,hs⟩:=iN (l:=W.bk) (i:=k) (by rw [An.out];exact bw);have Qb:=mE.out.keep Φ;have afd:=jl.out.later Φ;have Qa:ax.rep.aJ 16 wr gd fN W.aW:=Qb.B;have KW:bP.aJ 8 wr eZ fl W.field.aZ:=Qb.P;have afl:bP.aJ 8 wr gg gp W.bk:=Qb.S;have aJ0:(ns:Int)≤(fN:Int):=by have:=Qa.1;rw [kh.out] at this;omega
        obtain ⟨b,o,rfl,jA⟩:=ax.at_ Qa (by rw [kh.out];omega);obtain ⟨MM,eQ⟩:=jA k p hp;obtain ⟨cX,os,rfl,afV⟩:=FU afl (by rw [An.out];omega);have qh:=afV k st hs;obtain ⟨b1,c1,c2,c3,c4,c5,dD,dT,eo⟩:=ah.tO afd;rw [kh.out] at c3;rw [An.out] at c4;have eh:W.x4 k=(W.field.ground p && !(W.aW.take k).contains p && cO st 0 1000000):=by
          unfold ah.x4;rw [aRB,hp,aRB,hs];rfl
        have cT:=lx wr (.cells #[.int .i64 p.x, .int .i64 p.y] 49);have P':=aR.new wr p.cells 49 (0,0);obtain ⟨aP,TB⟩:∃ aP,Hid (wr.alloc (.cells #[.int .i64 p.x, .int .i64 p.y] 49)=aP):=⟨_,aRF rfl⟩;rw [TB.out] at cT;have P':aR aP wr.heap.size p.cells 49 (0,0):=by rw [← TB.out];exact P'
        obtain ⟨Dp,r1⟩:=ax.ft P';have k3:=aRF (λ (V:World) (h:Below aP.heap.size aP V)=>KT W.field p eZ fl V ((KW.keep cT).keep h) w2.out);have Ai:=aRF (λ (V:World) (h:Below aP.heap.size aP V)=>avB p (some ⟨b,o,none⟩) fN (W.aW.take k) V (((Qa.IV k).keep cT).keep h));have ja:(W.aW.take k).length=k:=by rw [aRE,kh.out];omega
        rw [ja] at Ai;have mg:=aRF (λ (V:World)=>SI st 0 1000000 V);have k5:=aRF eh;have CV:=aR8 aP.heap.size aP;have CU:=Φ.trans (cT.mono Φ.size);have ob:(k:Int)<(ns:Int):=by omega
        have oY:(0:Int)≤(k:Int):=by omega
        have awt:(k:Int)≤(fN:Int):=by omega
        have WY:k≤fN:=by omega
        clear Qb afd jA afV hp hs eh ja Qa KW afl;go_wp2_with fail
        rw [TB.out];have b1:=cell_later cT b1;have c1:=cell_later cT c1;have c2:=cell_later cT c2;have c3:=cell_later cT c3;have c4:=cell_later cT c4;have qh:=cell_later cT qh;have fp:=aRF (λ (l7:World) (h:Below aP.heap.size aP l7)=>(⟨trivial,cell_later h b1,cell_later h c1,cell_later h c2,cell_later h c3,cell_later h c4,cell_later h Dp,cell_later h r1,cell_later h qh⟩:True∧l7.cell? ⟨w.heap.size,0,none⟩=some (.int .i64 W.field.wide)∧l7.cell? ⟨w.heap.size,1,none⟩=some (.int .i64 W.field.high)∧l7.cell? ⟨w.heap.size,2,none⟩=some (.slice eZ W.field.aZ.length fl)∧l7.cell? ⟨w.heap.size,3,none⟩=some (.slice (some ⟨b,o,none⟩) ns fN)∧l7.cell? ⟨w.heap.size,4,none⟩=some (.slice (some ⟨cX,os,none⟩) ns gp)∧l7.cell? ⟨wr.heap.size,0,none⟩=some (.int .i64 p.x)∧l7.cell? ⟨wr.heap.size,1,none⟩=some (.int .i64 p.y)∧l7.cell? ⟨cX,os+k,none⟩=some (.int .i64 st)));clear MM eQ c5 dD dT eo P';cases τ:W.field.ground p with
        | false =>
          rw [τ] at k3;have bW:Hid (W.om=false):=ah.YB (k:=k) (by rw [kh.out];exact bw) (by rw [k5.out,τ];rfl);clear τ;refine SN (by kernel_rfl) (by kernel_rfl) ?_;repeat (first
            | go_big_quiet_skip
            | (go_big_quiet_want
               first
               | (go_big_quiet_op;go_big_quiet_on)
               | (apply Exists.intro
                  refine ⟨λ Gc I=> ?_, ?_⟩
                  · first
                    | (obtain ⟨_,YH,YI,YJ,YK,YL,YM,YN,YO⟩:=fp.out Gc I
                       apply RM
                       · (go_simp;rfl)
                       · rfl)
                    | (apply RL
                       · (go_simp;rfl)
                       · rfl
                       · first
                         | (with_reducible refine (k3.out _ I).mono ?_;rintro e cH ⟨rfl,bx⟩;exact ⟨rfl,n6 I bx⟩)
                         | (with_reducible refine (Ai.out _ I).mono ?_;rintro e cH ⟨rfl,bx⟩;exact ⟨rfl,n6 I bx⟩)
                         | (with_reducible refine (mg.out _).mono ?_;rintro e cH ⟨rfl,rfl⟩;exact ⟨rfl,I⟩)
                       )
                  go_big_quiet_on
                  simp only [Act.put,aTS,aTE,aTF])))
          refine aVI ?_;intro BQ bs;go_wp2_with fail
          go_ret;exact ⟨h4 bW.out.symm,cF.trans ((CU.trans (aUX bs CU.size)).mono cF.size)⟩
        | true =>
          rw [τ] at k3;cases aa:(W.aW.take k).contains p with
          | true =>
            rw [aa] at Ai;have bW:Hid (W.om=false):=ah.YB (k:=k) (by rw [kh.out];exact bw) (by rw [k5.out,τ,aa];rfl);clear τ aa;refine SN (by kernel_rfl) (by kernel_rfl) ?_;repeat (first
              | go_big_quiet_skip
              | (go_big_quiet_want
                 first
                 | (go_big_quiet_op;go_big_quiet_on)
                 | (apply Exists.intro
                    refine ⟨λ Gc I=> ?_, ?_⟩
                    · first
                      | (obtain ⟨_,YH,YI,YJ,YK,YL,YM,YN,YO⟩:=fp.out Gc I
                         apply RM
                         · (go_simp;rfl)
                         · rfl)
                      | (apply RL
                         · (go_simp;rfl)
                         · rfl
                         · first
                           | (with_reducible refine (k3.out _ I).mono ?_;rintro e cH ⟨rfl,bx⟩;exact ⟨rfl,n6 I bx⟩)
                           | (with_reducible refine (Ai.out _ I).mono ?_;rintro e cH ⟨rfl,bx⟩;exact ⟨rfl,n6 I bx⟩)
                           | (with_reducible refine (mg.out _).mono ?_;rintro e cH ⟨rfl,rfl⟩;exact ⟨rfl,I⟩)
                         )
                    go_big_quiet_on
                    simp only [Act.put,aTS,aTE,aTF])))
            refine aVI ?_;intro BQ bs;go_wp2_with fail
            go_ret;exact ⟨h4 bW.out.symm,cF.trans ((CU.trans (aUX bs CU.size)).mono cF.size)⟩
          | false =>
            rw [aa] at Ai;cases aw:cO st 0 1000000 with
            | false =>
              rw [aw] at mg;have bW:Hid (W.om=false):=ah.YB (k:=k) (by rw [kh.out];exact bw) (by rw [k5.out,aw,aVO]);clear τ aa aw;refine SN (by kernel_rfl) (by kernel_rfl) ?_;repeat (first
                | go_big_quiet_skip
                | (go_big_quiet_want
                   first
                   | (go_big_quiet_op;go_big_quiet_on)
                   | (apply Exists.intro
                      refine ⟨λ Gc I=> ?_, ?_⟩
                      · first
                        | (obtain ⟨_,YH,YI,YJ,YK,YL,YM,YN,YO⟩:=fp.out Gc I
                           apply RM
                           · (go_simp;rfl)
                           · rfl)
                        | (apply RL
                           · (go_simp;rfl)
                           · rfl
                           · first
                             | (with_reducible refine (k3.out _ I).mono ?_;rintro e cH ⟨rfl,bx⟩;exact ⟨rfl,n6 I bx⟩)
                             | (with_reducible refine (Ai.out _ I).mono ?_;rintro e cH ⟨rfl,bx⟩;exact ⟨rfl,n6 I bx⟩)
                             | (with_reducible refine (mg.out _).mono ?_;rintro e cH ⟨rfl,rfl⟩;exact ⟨rfl,I⟩)
                           )
                      go_big_quiet_on
                      simp only [Act.put,aTS,aTE,aTF])))
              refine aVI ?_;intro BQ bs;go_wp2_with fail
              go_ret;exact ⟨h4 bW.out.symm,cF.trans ((CU.trans (aUX bs CU.size)).mono cF.size)⟩
            | true =>
              rw [aw] at mg;have px:Hid (∀ j,j<k+1→W.x4 j=true):=by
                intro j ay;by_cases fD:j<k
                · exact hY.out j fD
                · obtain rfl:j=k:=by omega
                  rw [k5.out,τ,aa,aw];rfl
              clear τ aa aw;refine SN (by kernel_rfl) (by kernel_rfl) ?_;repeat (first
                | go_big_quiet_skip
                | (go_big_quiet_want
                   first
                   | (go_big_quiet_op;go_big_quiet_on)
                   | (apply Exists.intro
                      refine ⟨λ Gc I=> ?_, ?_⟩
                      · first
                        | (obtain ⟨_,YH,YI,YJ,YK,YL,YM,YN,YO⟩:=fp.out Gc I
                           apply RM
                           · (go_simp;rfl)
                           · rfl)
                        | (apply RL
                           · (go_simp;rfl)
                           · rfl
                           · first
                             | (with_reducible refine (k3.out _ I).mono ?_;rintro e cH ⟨rfl,bx⟩;exact ⟨rfl,n6 I bx⟩)
                             | (with_reducible refine (Ai.out _ I).mono ?_;rintro e cH ⟨rfl,bx⟩;exact ⟨rfl,n6 I bx⟩)
                             | (with_reducible refine (mg.out _).mono ?_;rintro e cH ⟨rfl,rfl⟩;exact ⟨rfl,I⟩)
                           )
                      go_big_quiet_on
                      simp only [Act.put,aTS,aTE,aTF])))
              refine aVI ?_;intro BQ bs;go_wp2_with fail
              go_roundw
              case rel=>exact ⟨k+1,by omega,by go_num,px,CU.trans (aUX bs CU.size)⟩
              case measure=>simp [intOf];omega
      · have rA:Hid (W.om=true):=ah.ajY (by rw [An.out,kh.out]) λ j ay=>hY.out j (by rw [kh.out] at ay;omega)
        clear hY;go_wp2_with fail
        go_ret;exact ⟨h4 rA.out.symm,cF.trans (Φ.mono cF.size)⟩
  · have rA:Hid (W.om=false):=ah.aBo (by rw [An.out,kh.out];exact hlen)
    have hd:((ns:Int) != (kq:Int))=true:=by simp;omega
    rw [rA.out];go_enter func89,ntmps89;rw [kh.out,An.out];go_wp2_with fail
    go_ret;rw [pB.out];exact ⟨Z,cF⟩
end
section
theorem azW (a:ah.b5) (W:ah) (w:World) (bV:ah.Has w a W):
  Calls prog 90 #[.agg (ah.cells a W).toArray] w λ e w'=>e= .returned (.bool W.o9)∧Below w.heap.size w w':=by
 obtain ⟨eZ,gd,gg,fy,e6,fl,fN,gp,fU,fF⟩:=a;show Calls _ _ #[.agg #[.int .i64 W.field.wide, .int .i64 W.field.high, .slice eZ W.field.aZ.length fl, .slice gd W.aW.length fN, .slice gg W.bk.length gp, .slice fy W.br.length fU, .slice e6 W.ak.length fF, .int .i64 W.next, .int .i64 W.now]] _ _;have cF:=lx w (.cells (ah.cells ⟨eZ,gd,gg,fy,e6,fl,fN,gp,fU,fF⟩ W).toArray 28);have jl:=aRF (aR.new w (ah.cells ⟨eZ,gd,gg,fy,e6,fl,fN,gp,fU,fF⟩ W) 28 (0,0));have mE:=aRF (bV.keep cF);obtain ⟨w0,jo⟩:∃ w0,Hid (w.alloc (.cells (ah.cells ⟨eZ,gd,gg,fy,e6,fl,fN,gp,fU,fF⟩ W).toArray 28)=w0):=⟨_,aRF rfl⟩;rw [jo.out] at cF mE;have jl:Hid (aR w0 w.heap.size (ah.cells ⟨eZ,gd,gg,fy,e6,fl,fN,gp,fU,fF⟩ W) 28 (0,0)):=by rw [← jo.out];exact jl
 obtain ⟨nm,uf⟩:∃ n,Hid (W.br.length=n):=⟨_,aRF rfl⟩;obtain ⟨ME,Am⟩:∃ n,Hid (W.field.aZ.length=n):=⟨_,aRF rfl⟩;have hle:nm≤9223372036854775807:=by have:=bV.M.ez;rw [uf.out] at this;exact this
 have pB:Hid (w.alloc (.cells #[.int .i64 W.field.wide, .int .i64 W.field.high, .slice eZ ME fl, .slice gd W.aW.length fN, .slice gg W.bk.length gp, .slice fy nm fU, .slice e6 W.ak.length fF, .int .i64 W.next, .int .i64 W.now] 28)=w0):=by rw [← jo.out,← uf.out,← Am.out];rfl
 obtain ⟨b1,c1,c2,c3,c4,c5,dD,dT,eo⟩:=ah.tO jl.out;rw [Am.out] at c2;rw [uf.out] at c5;clear bV;by_cases hlen:nm=ME
 ·subst hlen;have Cb:Hid (∀ j,j<0→W.x5 j=true):=aRF λ j ay=>absurd ay (by omega);go_enter func90,ntmps90;rw [Am.out,uf.out];go_wp2_with fail
  rw [pB.out];go_loopw [3,4,16] (λ _ _ hi wr=>∃ k:Nat,k≤nm∧hi= .int .i64 (k:Int)∧Hid (∀ j,j<k→W.x5 j=true)∧Hid (wr=w0)) (λ _ _ hi _=>nm - (intOf hi).toNat)
  case atStart=>exact ⟨0,aSo _,rfl,Cb,rfl⟩
  case round =>
   clear Cb b1 c1 c2 c3 c4 c5 dD dT eo;obtain ⟨k,ar,rfl,hY,GO⟩:=hrel;obtain ⟨b1,c1,c2,c3,c4,c5,dD,dT,eo⟩:=ah.tO (show aR wr w.heap.size (ah.cells ⟨eZ,gd,gg,fy,e6,fl,fN,gp,fU,fF⟩ W) 28 (0,0) by rw [GO.out];exact jl.out);rw [Am.out] at c2;rw [uf.out] at c5;have mq:Below w.heap.size w wr:=by rw [GO.out];exact cF
   by_cases bw:k<nm
   ·obtain ⟨p,hp⟩:=iN (l:=W.field.aZ) (i:=k) (by rw [Am.out];exact bw);obtain ⟨m,hm⟩:=iN (l:=W.br) (i:=k) (by rw [uf.out];exact bw);have KW:bP.aJ 8 wr eZ fl W.field.aZ:=by rw [GO.out];exact mE.out.P
    have afk:bP.aJ 8 wr fy fU W.br:=by rw [GO.out];exact mE.out.M
    obtain ⟨b,o,rfl,jA⟩:=FU KW (by rw [Am.out];omega);have MM:=jA k p hp;obtain ⟨aIE,aN6,rfl,afU⟩:=FU afk (by rw [uf.out];omega);have m0:=afU k m hm;have eh:W.x5 k=(cO m 0 1000000 && (decide (m≤0) || p == 3)):=by
     unfold ah.x5;rw [aRB,hm,aRB,hp];rfl
    have mg:=aRF (λ (V:World)=>SI m 0 1000000 V);have k5:=aRF eh;have ob:(k:Int)<(nm:Int):=by omega
    have oY:(0:Int)≤(k:Int):=by omega
    clear KW afk jA afU hp hm eh;cases τ:cO m 0 1000000 with
    | false =>
     rw [τ] at mg;have bW:Hid (W.o9=false):=ah.ajn (k:=k) (by rw [uf.out];exact bw) (by rw [k5.out,τ];rfl);clear τ;go_wp2_with fail
     refine (mg.out _).mono ?_;rintro e w' ⟨rfl,rfl⟩;go_wp2_with fail
     go_ret;exact ⟨h4 bW.out.symm,mq⟩
    | true =>
     rw [τ] at mg;by_cases aa:m≤0
     ·have hd:decide (0<m)=false:=by simp;omega
      have px:Hid (∀ j,j<k+1→W.x5 j=true):=by
       intro j ay;by_cases fD:j<k
       ·exact hY.out j fD
       ·obtain rfl:j=k:=by omega
        rw [k5.out,τ,aSe aa];rfl
      clear τ;go_wp2_with fail
      refine (mg.out _).mono ?_;rintro e w' ⟨rfl,rfl⟩;go_wp2_with fail
      go_roundw
      case rel=>exact ⟨k+1,by omega,by go_num,px,GO⟩
      case measure=>simp [intOf];omega
     ·have hd:decide (0<m)=true:=by simp;omega
      by_cases aw:p=3
      ·subst aw;have px:Hid (∀ j,j<k+1→W.x5 j=true):=by
        intro j ay;by_cases fD:j<k
        ·exact hY.out j fD
        ·obtain rfl:j=k:=by omega
         rw [k5.out,τ];simp
       clear τ aa;go_wp2_with fail
       refine (mg.out _).mono ?_;rintro e w' ⟨rfl,rfl⟩;go_wp2_with fail
       go_roundw
       case rel=>exact ⟨k+1,by omega,by go_num,px,GO⟩
       case measure=>simp [intOf];omega
      ·have bW:Hid (W.o9=false):=ah.ajn (k:=k) (by rw [uf.out];exact bw) (by rw [k5.out,aSk aa,beq_false_of_ne aw];simp);have HO:(p == 3)=false:=by simpa using aw
       clear τ aa aw;go_wp2_with fail
       refine (mg.out _).mono ?_;rintro e w' ⟨rfl,rfl⟩;go_wp2_with fail
       go_ret;exact ⟨h4 bW.out.symm,mq⟩
   ·have rA:Hid (W.o9=true):=ah.ajo (by rw [uf.out,Am.out]) λ j ay=>hY.out j (by rw [uf.out] at ay;omega);clear hY;go_wp2_with fail
    go_ret;exact ⟨h4 rA.out.symm,mq⟩
 ·have rA:Hid (W.o9=false):=ah.azX (by rw [uf.out,Am.out];exact hlen);have hd:((nm:Int) != (ME:Int))=true:=by simp;omega
  rw [rA.out];go_enter func90,ntmps90;rw [Am.out,uf.out];go_wp2_with fail
  go_ret;rw [pB.out];exact ⟨Z,cF⟩
end
section
theorem pc {n lo aq:Int} {b:Bool} (h:cO n lo aq=b) (w:World):Calls prog 127 #[.int .i64 n, .int .i64 lo, .int .i64 aq] w λ e w'=>e= .returned (.bool b)∧w=w':=by
 have:=SI n lo aq w;rw [h] at this;exact this
theorem dB.drewN {gv:Type} {key:gv→Value} {w:World} {b:Nat} {l:List (gv×Int×Nat)} {clock:Nat} (h:dB key w b l clock) (n:Nat):dB key (w.drewN n) b l clock:=⟨h.ft,h.born,h.stamps⟩
theorem adS (w:World):w.drewN 1=w.drew:=rfl
theorem aR.of_heap {w w':World} {g:Nat} {cur:List Value} {e:TypeId} {aB:Nat×Nat} (h:aR w g cur e aB) (fC:w'.heap[g]? =w.heap[g]?):aR w' g cur e aB:=fC.trans h
theorem aez {w:World} {b:Nat} {l:List (ax×Int×Nat)} {ly:Nat} (h:dB ax.key w b l ly) (hw:∀ e∈l,e.1.ok) (hn:(l.map (·.1)).Nodup) (x:ax) (hx:x.ok) (v:Int) (hv:(dB.get l x).getD 0=v):
  ∃ (st:Nat) (ey:List (ax×Int×Nat)) (c1:Nat) (yi sz:World),
   (∀ n,(Instr.lookup 205 (.map (some b)) (.agg #[.int .i64 x.x, .int .i64 x.y]) false).run prog (w.drewN n)= .ok (.int .i64 v) (w.drewN n))∧
   (∀ n,(Instr.mapEntry 205 (.map (some b)) (.agg #[.int .i64 x.x, .int .i64 x.y])).run prog (w.drewN n)= .ok (.tuple #[.int .i64 v, .int .i64 (st:Int)]) (yi.drewN n))∧
   (∀ n,(Instr.lookup 205 (.map (some b)) (.agg #[.int .i64 x.x, .int .i64 x.y]) false).run prog (yi.drewN n)= .ok (.int .i64 v) (yi.drewN n))∧
   (∀ n,(Instr.entryStore 205 (.map (some b)) (.int .i64 (st:Int)) (.int .i64 (v+1))).run prog (yi.drewN n)= .ok () (sz.drewN n))∧
   (∀ n,(Instr.lookup 205 (.map (some b)) (.agg #[.int .i64 x.x, .int .i64 x.y]) false).run prog (sz.drewN n)= .ok (.int .i64 (v+1)) (sz.drewN n))∧
   dB ax.key sz b (dB.put l ly x (v+1)) (dB.tick l ly x)∧
   (∀ p:Addr,p.block≠b→yi.cell? p=w.cell? p)∧(∀ p:Addr,p.block≠b→sz.cell? p=w.cell? p)∧
   ∀ {B:Nat} {a:World},B≤b→(Below B a w→Below B a sz)∧(∀ g,g≠b→sz.heap[g]? =w.heap[g]?):=by
 obtain ⟨st,ey,dO,a_,bj,cV,jK,Kv,Kw⟩:=dB.entry ax.zq underlying205 aVG h hw hn x hx;have C1:=λ n=>(dB.lookup (w:=w.drewN n) ax.zq underlying205 (aVG _) (h.drewN n) hw hn x hx).1;have C2:=λ n=>(dB.lookup (w:=(iP w b (ey.map (dE ax.key)).toArray dO).drewN n) ax.zq underlying205 (aVG _) (bj.drewN n) cV jK x hx).1;have hp:=(Kw (v+1) 0).2;have C3:=λ n=>(dB.lookup (w:=(iP w b ((dB.put l ly x (v+1)).map (dE ax.key)).toArray (dB.tick l ly x)).drewN n) ax.zq underlying205 (aVG _) (hp.drewN n) (dB.Ye hw hx) (dB.H8 hn ly x (v+1)) x hx).1;simp only [Kv,hv,aSK] at C1 C2 a_;simp only [dB.A0,aRP,aSK] at C3;exact ⟨st,ey,dO,_,_,C1,a_,C2,λ n=>(Kw (v+1) n).1,C3,hp,λ p hp=>aWC (M0 hp),λ p hp=>aWC (M0 hp),
  fun {B a} aX=>⟨λ Φ=>aCW Φ aX,λ g aK=>M0 aK⟩⟩
theorem aDI (a:ah.b5) (W:ah) (w:World) (bV:ah.Has w a W) (aH:W.field.bo=0) (gh:W.aW.length≤8) (xB:W.ak.length≤100):
  Calls prog 91 #[.agg (ah.cells a W).toArray] w λ e w'=>e= .returned (.bool W.kt)∧Below w.heap.size w w':=by
 obtain ⟨eZ,gd,gg,fy,e6,fl,fN,gp,fU,fF⟩:=a;show Calls _ _ #[.agg #[.int .i64 W.field.wide, .int .i64 W.field.high, .slice eZ W.field.aZ.length fl, .slice gd W.aW.length fN, .slice gg W.bk.length gp, .slice fy W.br.length fU, .slice e6 W.ak.length fF, .int .i64 W.next, .int .i64 W.now]] _ _;have cF:=lx w (.cells (ah.cells ⟨eZ,gd,gg,fy,e6,fl,fN,gp,fU,fF⟩ W).toArray 28);have jl:=aRF (aR.new w (ah.cells ⟨eZ,gd,gg,fy,e6,fl,fN,gp,fU,fF⟩ W) 28 (0,0));have mE:=aRF (bV.keep cF);obtain ⟨w0,jo⟩:∃ w0,Hid (w.alloc (.cells (ah.cells ⟨eZ,gd,gg,fy,e6,fl,fN,gp,fU,fF⟩ W).toArray 28)=w0):=⟨_,aRF rfl⟩;rw [jo.out] at cF mE;have jl:Hid (aR w0 w.heap.size (ah.cells ⟨eZ,gd,gg,fy,e6,fl,fN,gp,fU,fF⟩ W) 28 (0,0)):=by rw [← jo.out];exact jl
 obtain ⟨dZ,il⟩:∃ n,Hid (W.ak.length=n):=⟨_,aRF rfl⟩;obtain ⟨kq,kh⟩:∃ n,Hid (W.aW.length=n):=⟨_,aRF rfl⟩;have gh:kq≤8:=by rw [← kh.out];exact gh
 have xB:dZ≤100:=by rw [← il.out];exact xB
 have w2:=aRF aH;have Cc:=aRF bV;obtain ⟨FM,we⟩:∃ FM,wrap64 (W.next - 1)=FM:=⟨_,rfl⟩;have aaY:=aRF we;have pB:Hid (w.alloc (.cells #[.int .i64 W.field.wide, .int .i64 W.field.high, .slice eZ W.field.aZ.length fl, .slice gd kq fN, .slice gg W.bk.length gp, .slice fy W.br.length fU, .slice e6 dZ fF, .int .i64 W.next, .int .i64 W.now] 28)=w0):=by rw [← jo.out,← kh.out,← il.out];rfl
 obtain ⟨b1,c1,c2,c3,c4,c5,dD,dT,eo⟩:=ah.tO jl.out;rw [kh.out] at c3;rw [il.out] at dD;clear bV aH;have QG:=@run_makeMap prog;have QE:=dB.made (key:=ax.key) w0;have Wu:=lx w0 (.map #[] 0);obtain ⟨amm,aa8⟩:∃ amm,Hid (w0.alloc (.map #[] 0)=amm):=⟨_,aRF rfl⟩;rw [aa8.out] at QE Wu;have jd:w0.heap.size=w.heap.size+1:=by rw [← jo.out];simp
 rw [jd] at QE;have Tw:=aRF QE;have Cb:Hid (∀ j,j<0→W.x6 j=true):=aRF λ j ay=>absurd ay (by omega);clear QE;go_enter func91,ntmps91;rw [kh.out,il.out];go_wp2_with fail
 rw [pB.out,aa8.out];have aaW:Hid (bP.aJ 8 w eZ fl W.field.aZ):=aRF Cc.out.P;have anN:Hid (bf.rep.aJ 56 w e6 fF W.ak):=aRF Cc.out.T;have aKs:=xB;have EV:=jl.out.later Wu;have afE:=cF.trans (Wu.mono cF.size);clear b1 c1 c2 c3 c4 c5 dD dT eo QG;obtain ⟨eI,Tx⟩:∃ eI,Hid (w.heap.size+1=eI):=⟨_,aRF rfl⟩;rw [Tx.out];rw [Tx.out] at Tw;go_loopw [3,6,7,8,9,14] (λ azA _ _ _ _ hi wr=>∃ (k:Nat) (l:List (ax×Int×Nat)) (ly:Nat),k≤dZ∧hi= .int .i64 (k:Int)∧azA= .int .i64 (W.jO k)∧Hid (∀ j,j<k→W.x6 j=true)∧Hid (dB ax.key wr eI l ly)∧Hid (∀ e∈l,e.1.ok)∧Hid ((l.map (·.1)).Nodup)∧Hid (∀ c,dB.get l c=if (W.jg k).contains c=true then some 1 else none)∧Hid (aR wr w.heap.size (ah.cells ⟨eZ,gd,gg,fy,e6,fl,fN,gp,fU,fF⟩ W) 28 (0,0))∧Below w.heap.size w wr) (λ _ _ _ _ _ hi _=>dZ - (intOf hi).toNat)
 case atStart=>exact ⟨0, [],0,aSo _,rfl,rfl,Cb,Tw,(λ e he=>by simp at he),aVL,(λ c=>by simp [dB.get,ah.jg]),EV,afE⟩
 case round =>
  clear Cb Tw EV afE;obtain ⟨k,l,ly,ar,rfl,rfl,hY,k4,Ow,Ol,B',GI,mq⟩:=hrel;obtain ⟨b1,c1,c2,c3,c4,c5,dD,dT,eo⟩:=ah.tO GI.out;rw [kh.out] at c3;rw [il.out] at dD;by_cases bw:k<dZ
  ·obtain ⟨t,aG⟩:=iN (l:=W.ak) (i:=k) (by rw [il.out];exact bw);have afm:=anN.out.keep mq;obtain ⟨b,o,rfl,jA⟩:=bf.at_ afm (by rw [il.out];omega);obtain ⟨MM,eQ,fo,mW,x9,aN8,aN9⟩:=jA k t aG;obtain ⟨hy,sa⟩:∃ hy,wrap64 (W.jO k+1)=hy:=⟨_,rfl⟩;have eh:W.x6 k=(W.MI hy FM t && !(W.jg k).contains t.spot):=by
    unfold ah.x6;rw [aRB,aG,sa,aaY.out];rfl
   unfold ah.MI at eh;rw [kh.out] at eh;have agC:W.jO (k+1)=t.id:=by
    unfold ah.jO;rw [aRL (by omega),aRB,aVf,aG];rfl
   have ag3:W.jg (k+1)=W.jg k++ [t.spot]:=by
    unfold ah.jg;rw [aR2 (by rw [il.out];exact bw),aR3];have:W.ak[k]'(by rw [il.out];exact bw)=t:=by
     rw [aRD (by rw [il.out];exact bw)] at aG;exact aRA aG
    rw [this];rfl
   have aaX:=aRF agC;have aa6:=aRF ag3;have cT:=lx wr (.cells #[.int .i64 t.id, .int .i64 t.owner, .int .i64 t.kind, .int .i64 t.spot.x, .int .i64 t.spot.y, .int .i64 t.c0, .int .i64 t.load] 66);have afh:=aR.new wr t.cells 66 (0,0);obtain ⟨aP,JW⟩:∃ aP,Hid (wr.alloc (.cells #[.int .i64 t.id, .int .i64 t.owner, .int .i64 t.kind, .int .i64 t.spot.x, .int .i64 t.spot.y, .int .i64 t.c0, .int .i64 t.load] 66)=aP):=⟨_,aRF rfl⟩;rw [JW.out] at cT;have B_:Hid (aR aP wr.heap.size t.cells 66 (0,0)):=by rw [← JW.out];exact afh
   have W2:eI<wr.heap.size:=k4.out.lt;have agu:w.heap.size<eI:=by have:=Tx.out;omega
   have ob:(k:Int)<(dZ:Int):=by omega
   have oY:(0:Int)≤(k:Int):=by omega
   have aKQ:(0:Int)≤(kq:Int)∧(kq:Int)≤8:=by omega
   clear afm jA aG agC ag3 afh we;have we:=aaY.out;by_cases p1:t.kind=1
   ·have Aq:=aRF p1;rw [p1] at fo;clear p1;have JN:=aRF (λ V:World=>aiF V);have Lr:ah.j_ 1=10:=rfl;have Ls:ah.Bv 1=5:=rfl;rw [Aq.out,Lr,Ls] at eh;have k5:=aRF eh;clear Lr Ls eh;have TA:Hid (wr.alloc (.cells #[.int .i64 t.id, .int .i64 t.owner, .int .i64 1, .int .i64 t.spot.x, .int .i64 t.spot.y, .int .i64 t.c0, .int .i64 t.load] 66)=aP):=by rw [← JW.out,Aq.out];rfl
    go_wp2_with fail
    rw [TA.out];refine (JN.out _).mono ?_;rintro e cH ⟨rfl,bx⟩;have wa:=cT.trans (bx.mono cT.size);have dL:=lx cH (.cells #[.int .i64 10, .int .i64 1, .int .i64 1, .int .i64 5] 207);have A2:=aR.new cH [.int .i64 10, .int .i64 1, .int .i64 1, .int .i64 5] 207 (0,0);obtain ⟨w3,Ed⟩:∃ w3,Hid (cH.alloc (.cells #[.int .i64 10, .int .i64 1, .int .i64 1, .int .i64 5] 207)=w3):=⟨_,aRF rfl⟩;rw [Ed.out] at dL;have A2:aR w3 cH.heap.size [.int .i64 10, .int .i64 1, .int .i64 1, .int .i64 5] 207 (0,0):=by rw [← Ed.out];exact A2
    have Bf:w3.cell? ⟨cH.heap.size,0,none⟩=some (.int .i64 10):=A2.cell 0;have rW:=wa.trans (dL.mono wa.size);have D7:=aRF ((B_.out.later bx).later dL);have JO:=aRF (k4.out.later rW);have D6:=aRF (GI.out.later rW);have E6:=mq.trans (rW.mono mq.size);have JL:=aRF (aaW.out.keep E6);obtain ⟨t0,t1,t2,t3,t4,t5,t6⟩:=bf.ft ((B_.out.later bx));rw [Aq.out] at t2;clear b1 c1 c2 c3 c4 c5 dD dT eo;obtain ⟨b1,c1,c2,c3,c4,c5,dD,dT,eo⟩:=ah.tO (GI.out.later wa);rw [kh.out] at c3;rw [il.out] at dD;have afH:wr.heap.size<cH.heap.size:=by have:=bx.size;have:=B_.out.lt;omega
    have afI:w.heap.size<cH.heap.size:=by have:=W2;omega
    go_wp2_with fail
    rw [Ed.out];clear t0 t1 t2 t3 t4 t5 t6 b1 c1 c2 c3 c4 c5 dD dT eo;obtain ⟨t0,t1,t2,t3,t4,t5,t6⟩:=bf.ft D7.out;obtain ⟨b1,c1,c2,c3,c4,c5,dD,dT,eo⟩:=ah.tO D6.out;rw [kh.out] at c3;rw [il.out] at dD;rw [Aq.out] at t2;clear bx A2 dL wa;cases aH:cO t.id hy FM with
    | false =>
     have bW:Hid (W.kt=false):=ah.u2 (k:=k) (by rw [il.out];exact bw) (by rw [k5.out,aH];simp);have Aj:=aRF aH;clear aH;refine (pc Aj.out _).mono ?_;rintro e w' ⟨rfl,rfl⟩;go_wp2_with fail
     go_ret;exact ⟨h4 bW.out.symm,E6⟩
    | true =>
     have Aj:=aRF aH;clear aH;refine (pc Aj.out _).mono ?_;rintro e w' ⟨rfl,rfl⟩;go_wp2_with fail
     cases τ:cO t.owner 0 ((kq:Int) - 1) with
     | false =>
      have bW:Hid (W.kt=false):=ah.u2 (k:=k) (by rw [il.out];exact bw) (by rw [k5.out,τ];simp);have dw:=aRF τ;clear τ;refine (pc dw.out _).mono ?_;rintro e w' ⟨rfl,rfl⟩;go_wp2_with fail
      go_ret;exact ⟨h4 bW.out.symm,E6⟩
     | true =>
      have dw:=aRF τ;clear τ;refine (pc dw.out _).mono ?_;rintro e w' ⟨rfl,rfl⟩;go_wp2_with fail
      cases aa:W.field.ground t.spot with
      | false =>
       have bW:Hid (W.kt=false):=ah.u2 (k:=k) (by rw [il.out];exact bw) (by rw [k5.out,aa];simp);have w5:=aRF aa;clear aa;have k3:=KT W.field t.spot eZ fl _ JL.out w2.out;rw [w5.out] at k3;refine k3.mono ?_;rintro e tJ ⟨rfl,dx⟩;have E3:=rW.trans (dx.mono rW.size);have xG:=mq.trans (E3.mono mq.size);have D8:=aRF (D7.out.later dx);have JP:=aRF (JO.out.later dx);have JK:=aRF (D6.out.later dx);clear t0 t1 t2 t3 t4 t5 t6 b1 c1 c2 c3 c4 c5 dD dT eo k3;obtain ⟨t0,t1,t2,t3,t4,t5,t6⟩:=bf.ft D8.out;have Bf:=cell_later dx Bf;go_wp2_with fail
       go_ret;exact ⟨h4 bW.out.symm,xG⟩
      | true =>
       have w5:=aRF aa;clear aa;have k3:=KT W.field t.spot eZ fl _ JL.out w2.out;rw [w5.out] at k3;refine k3.mono ?_;rintro e tJ ⟨rfl,dx⟩;have E3:=rW.trans (dx.mono rW.size);have xG:=mq.trans (E3.mono mq.size);have D8:=aRF (D7.out.later dx);have JP:=aRF (JO.out.later dx);have JK:=aRF (D6.out.later dx);clear t0 t1 t2 t3 t4 t5 t6 b1 c1 c2 c3 c4 c5 dD dT eo k3;obtain ⟨t0,t1,t2,t3,t4,t5,t6⟩:=bf.ft D8.out;have Bf:=cell_later dx Bf;go_wp2_with fail
       cases aw:cO t.c0 1 10 with
       | false =>
        have bW:Hid (W.kt=false):=ah.u2 (k:=k) (by rw [il.out];exact bw) (by rw [k5.out,aw];simp);have Ak:=aRF aw;clear aw;refine (pc Ak.out _).mono ?_;rintro e w' ⟨rfl,rfl⟩;go_wp2_with fail
        go_ret;exact ⟨h4 bW.out.symm,xG⟩
       | true =>
        have Ak:=aRF aw;clear aw;refine (pc Ak.out _).mono ?_;rintro e w' ⟨rfl,rfl⟩;go_wp2_with fail
        cases a1:cO t.load 0 5 with
        | false =>
         have bW:Hid (W.kt=false):=ah.u2 (k:=k) (by rw [il.out];exact bw) (by rw [k5.out,a1];simp);have Al:=aRF a1;clear a1;refine (pc Al.out _).mono ?_;rintro e w' ⟨rfl,rfl⟩;go_wp2_with fail
         go_ret;exact ⟨h4 bW.out.symm,xG⟩
        | true =>
         have Al:=aRF a1;clear a1;refine (pc Al.out _).mono ?_;rintro e w' ⟨rfl,rfl⟩;go_wp2_with fail
         have Bb:t.spot.ok:=by
          obtain ⟨i1,i2,i3,i4,i5,i6⟩:=aE.idx w2.out (aE.j8 w5.out);obtain ⟨g1,g2,g3,g4,_,_⟩:=aE.jM w2.out;exact ⟨bI.2 (by omega),bI.2 (by omega)⟩
         obtain ⟨v,At⟩:∃ v,Hid ((dB.get l t.spot).getD 0=v):=⟨_,aRF rfl⟩;obtain ⟨st,ey,dO,yi,sz,pC⟩:=aez JP.out Ow.out Ol.out t.spot Bb v At.out;obtain ⟨C1,a_,C2,f1,C3,Fb,LM,LN,A6⟩:=pC;have axI:0≤v∧v≤1:=by
          rw [← At.out,B'.out];split<;>simp
         have Tv:=aRF Fb;have JV:=aRF LM;have Ap:=aRF LN;have HK:=(A6 (Nat.le_of_lt agu)).1 xG;have Ah:=aRF (JK.out.of_heap ((A6 (B:=0) (a:=tJ) (aSo _)).2 _ (by omega)));have ya:yi.cell? ⟨wr.heap.size,3,none⟩=some (.int .i64 t.spot.x):=(JV.out _ (by simp;omega)).trans t3;have II:yi.cell? ⟨wr.heap.size,4,none⟩=some (.int .i64 t.spot.y):=(JV.out _ (by simp;omega)).trans t4;have Dp:sz.cell? ⟨wr.heap.size,0,none⟩=some (.int .i64 t.id):=(Ap.out _ (by simp;omega)).trans t0;have u0:sz.cell? ⟨wr.heap.size,3,none⟩=some (.int .i64 t.spot.x):=(Ap.out _ (by simp;omega)).trans t3;have aCh:sz.cell? ⟨wr.heap.size,4,none⟩=some (.int .i64 t.spot.y):=(Ap.out _ (by simp;omega)).trans t4;have g1:=C1 1;have g2:=a_ 1;have g3:=C2 1;have g4:=f1 1;have g5:=C3 1;clear Fb LM LN A6 C1 a_ C2 f1 C3;simp only [adS] at g1 g2 g3 g4 g5;cases r3:(W.jg k).contains t.spot with
         | true =>
          have o1:v=1:=by rw [← At.out,B'.out,r3];rfl
          subst o1;rw [show (1:Int)+1=2 from rfl] at g4 g5;have bW:Hid (W.kt=false):=ah.u2 (k:=k) (by rw [il.out];exact bw) (by rw [k5.out,r3];simp);clear r3
          go_region
          go_wp2_with fail
          go_ret;exact ⟨h4 bW.out.symm,below_drewN HK 1⟩
         | false =>
          have o1:v=0:=by rw [← At.out,B'.out,r3];rfl
          subst o1;rw [show (0:Int)+1=1 from rfl] at g4 g5;have px:Hid (∀ j,j<k+1→W.x6 j=true):=by
           intro j ay;by_cases fD:j<k
           ·exact hY.out j fD
           ·obtain rfl:j=k:=by omega
            rw [k5.out,Aj.out,dw.out,w5.out,Ak.out,Al.out,r3];rfl
          have Tt:Hid (∀ c,dB.get (dB.put l ly t.spot (0+1)) c=if (W.jg (k+1)).contains c=true then some 1 else none):=by
           intro c;rw [dB.A0,aa6.out,B'.out];by_cases E8:c=t.spot
           ·simp [E8]
           ·rw [aRL E8];simp [E8]
          have TC:Hid (∀ e∈dB.put l ly t.spot (0+1),e.1.ok):=dB.Ye Ow.out Bb;have Tu:Hid (((dB.put l ly t.spot (0+1)).map (·.1)).Nodup):=dB.H8 Ol.out _ _ _;clear r3 Bb
          go_region
          go_wp2_with fail
          go_roundw
          case rel=>exact ⟨k+1,_,_,by omega,by go_num,by rw [aaX.out],px,Tv.out.drewN 1,TC,Tu,Tt,Ah.out.drewN 1,below_drewN HK 1⟩
          case measure=>simp [intOf];omega
   ·by_cases gS:t.kind=2
    ·have Aq:=aRF gS;rw [gS] at fo;clear p1 gS;have JN:=aRF (λ V:World=>aiG V);have Lr:ah.j_ 2=20:=rfl;have Ls:ah.Bv 2=0:=rfl;rw [Aq.out,Lr,Ls] at eh;have k5:=aRF eh;clear Lr Ls eh;have TA:Hid (wr.alloc (.cells #[.int .i64 t.id, .int .i64 t.owner, .int .i64 2, .int .i64 t.spot.x, .int .i64 t.spot.y, .int .i64 t.c0, .int .i64 t.load] 66)=aP):=by rw [← JW.out,Aq.out];rfl
     go_wp2_with fail
     rw [TA.out];refine (JN.out _).mono ?_;rintro e cH ⟨rfl,bx⟩;have wa:=cT.trans (bx.mono cT.size);have dL:=lx cH (.cells #[.int .i64 20, .int .i64 2, .int .i64 4, .int .i64 12] 207);have A2:=aR.new cH [.int .i64 20, .int .i64 2, .int .i64 4, .int .i64 12] 207 (0,0);obtain ⟨w3,Ed⟩:∃ w3,Hid (cH.alloc (.cells #[.int .i64 20, .int .i64 2, .int .i64 4, .int .i64 12] 207)=w3):=⟨_,aRF rfl⟩;rw [Ed.out] at dL;have A2:aR w3 cH.heap.size [.int .i64 20, .int .i64 2, .int .i64 4, .int .i64 12] 207 (0,0):=by rw [← Ed.out];exact A2
     have Bf:w3.cell? ⟨cH.heap.size,0,none⟩=some (.int .i64 20):=A2.cell 0;have rW:=wa.trans (dL.mono wa.size);have D7:=aRF ((B_.out.later bx).later dL);have JO:=aRF (k4.out.later rW);have D6:=aRF (GI.out.later rW);have E6:=mq.trans (rW.mono mq.size);have JL:=aRF (aaW.out.keep E6);obtain ⟨t0,t1,t2,t3,t4,t5,t6⟩:=bf.ft ((B_.out.later bx));rw [Aq.out] at t2;clear b1 c1 c2 c3 c4 c5 dD dT eo;obtain ⟨b1,c1,c2,c3,c4,c5,dD,dT,eo⟩:=ah.tO (GI.out.later wa);rw [kh.out] at c3;rw [il.out] at dD;have afH:wr.heap.size<cH.heap.size:=by have:=bx.size;have:=B_.out.lt;omega
     have afI:w.heap.size<cH.heap.size:=by have:=W2;omega
     go_wp2_with fail
     rw [Ed.out];clear t0 t1 t2 t3 t4 t5 t6 b1 c1 c2 c3 c4 c5 dD dT eo;obtain ⟨t0,t1,t2,t3,t4,t5,t6⟩:=bf.ft D7.out;obtain ⟨b1,c1,c2,c3,c4,c5,dD,dT,eo⟩:=ah.tO D6.out;rw [kh.out] at c3;rw [il.out] at dD;rw [Aq.out] at t2;clear bx A2 dL wa;cases aH:cO t.id hy FM with
     | false =>
      have bW:Hid (W.kt=false):=ah.u2 (k:=k) (by rw [il.out];exact bw) (by rw [k5.out,aH];simp);have Aj:=aRF aH;clear aH;refine (pc Aj.out _).mono ?_;rintro e w' ⟨rfl,rfl⟩;go_wp2_with fail
      go_ret;exact ⟨h4 bW.out.symm,E6⟩
     | true =>
      have Aj:=aRF aH;clear aH;refine (pc Aj.out _).mono ?_;rintro e w' ⟨rfl,rfl⟩;go_wp2_with fail
      cases τ:cO t.owner 0 ((kq:Int) - 1) with
      | false =>
       have bW:Hid (W.kt=false):=ah.u2 (k:=k) (by rw [il.out];exact bw) (by rw [k5.out,τ];simp);have dw:=aRF τ;clear τ;refine (pc dw.out _).mono ?_;rintro e w' ⟨rfl,rfl⟩;go_wp2_with fail
       go_ret;exact ⟨h4 bW.out.symm,E6⟩
      | true =>
       have dw:=aRF τ;clear τ;refine (pc dw.out _).mono ?_;rintro e w' ⟨rfl,rfl⟩;go_wp2_with fail
       cases aa:W.field.ground t.spot with
       | false =>
        have bW:Hid (W.kt=false):=ah.u2 (k:=k) (by rw [il.out];exact bw) (by rw [k5.out,aa];simp);have w5:=aRF aa;clear aa;have k3:=KT W.field t.spot eZ fl _ JL.out w2.out;rw [w5.out] at k3;refine k3.mono ?_;rintro e tJ ⟨rfl,dx⟩;have E3:=rW.trans (dx.mono rW.size);have xG:=mq.trans (E3.mono mq.size);have D8:=aRF (D7.out.later dx);have JP:=aRF (JO.out.later dx);have JK:=aRF (D6.out.later dx);clear t0 t1 t2 t3 t4 t5 t6 b1 c1 c2 c3 c4 c5 dD dT eo k3;obtain ⟨t0,t1,t2,t3,t4,t5,t6⟩:=bf.ft D8.out;have Bf:=cell_later dx Bf;go_wp2_with fail
        go_ret;exact ⟨h4 bW.out.symm,xG⟩
       | true =>
        have w5:=aRF aa;clear aa;have k3:=KT W.field t.spot eZ fl _ JL.out w2.out;rw [w5.out] at k3;refine k3.mono ?_;rintro e tJ ⟨rfl,dx⟩;have E3:=rW.trans (dx.mono rW.size);have xG:=mq.trans (E3.mono mq.size);have D8:=aRF (D7.out.later dx);have JP:=aRF (JO.out.later dx);have JK:=aRF (D6.out.later dx);clear t0 t1 t2 t3 t4 t5 t6 b1 c1 c2 c3 c4 c5 dD dT eo k3;obtain ⟨t0,t1,t2,t3,t4,t5,t6⟩:=bf.ft D8.out;have Bf:=cell_later dx Bf;go_wp2_with fail
        cases aw:cO t.c0 1 20 with
        | false =>
         have bW:Hid (W.kt=false):=ah.u2 (k:=k) (by rw [il.out];exact bw) (by rw [k5.out,aw];simp);have Ak:=aRF aw;clear aw;refine (pc Ak.out _).mono ?_;rintro e w' ⟨rfl,rfl⟩;go_wp2_with fail
         go_ret;exact ⟨h4 bW.out.symm,xG⟩
        | true =>
         have Ak:=aRF aw;clear aw;refine (pc Ak.out _).mono ?_;rintro e w' ⟨rfl,rfl⟩;go_wp2_with fail
         cases a1:cO t.load 0 0 with
         | false =>
          have bW:Hid (W.kt=false):=ah.u2 (k:=k) (by rw [il.out];exact bw) (by rw [k5.out,a1];simp);have Al:=aRF a1;clear a1;refine (pc Al.out _).mono ?_;rintro e w' ⟨rfl,rfl⟩;go_wp2_with fail
          go_ret;exact ⟨h4 bW.out.symm,xG⟩
         | true =>
          have Al:=aRF a1;clear a1;refine (pc Al.out _).mono ?_;rintro e w' ⟨rfl,rfl⟩;go_wp2_with fail
          have Bb:t.spot.ok:=by
           obtain ⟨i1,i2,i3,i4,i5,i6⟩:=aE.idx w2.out (aE.j8 w5.out);obtain ⟨g1,g2,g3,g4,_,_⟩:=aE.jM w2.out;exact ⟨bI.2 (by omega),bI.2 (by omega)⟩
          obtain ⟨v,At⟩:∃ v,Hid ((dB.get l t.spot).getD 0=v):=⟨_,aRF rfl⟩;obtain ⟨st,ey,dO,yi,sz,pC⟩:=aez JP.out Ow.out Ol.out t.spot Bb v At.out;obtain ⟨C1,a_,C2,f1,C3,Fb,LM,LN,A6⟩:=pC;have axI:0≤v∧v≤1:=by
           rw [← At.out,B'.out];split<;>simp
          have Tv:=aRF Fb;have JV:=aRF LM;have Ap:=aRF LN;have HK:=(A6 (Nat.le_of_lt agu)).1 xG;have Ah:=aRF (JK.out.of_heap ((A6 (B:=0) (a:=tJ) (aSo _)).2 _ (by omega)));have ya:yi.cell? ⟨wr.heap.size,3,none⟩=some (.int .i64 t.spot.x):=(JV.out _ (by simp;omega)).trans t3;have II:yi.cell? ⟨wr.heap.size,4,none⟩=some (.int .i64 t.spot.y):=(JV.out _ (by simp;omega)).trans t4;have Dp:sz.cell? ⟨wr.heap.size,0,none⟩=some (.int .i64 t.id):=(Ap.out _ (by simp;omega)).trans t0;have u0:sz.cell? ⟨wr.heap.size,3,none⟩=some (.int .i64 t.spot.x):=(Ap.out _ (by simp;omega)).trans t3;have aCh:sz.cell? ⟨wr.heap.size,4,none⟩=some (.int .i64 t.spot.y):=(Ap.out _ (by simp;omega)).trans t4;have g1:=C1 1;have g2:=a_ 1;have g3:=C2 1;have g4:=f1 1;have g5:=C3 1;clear Fb LM LN A6 C1 a_ C2 f1 C3;simp only [adS] at g1 g2 g3 g4 g5;cases r3:(W.jg k).contains t.spot with
          | true =>
           have o1:v=1:=by rw [← At.out,B'.out,r3];rfl
           subst o1;rw [show (1:Int)+1=2 from rfl] at g4 g5;have bW:Hid (W.kt=false):=ah.u2 (k:=k) (by rw [il.out];exact bw) (by rw [k5.out,r3];simp);clear r3
           go_region
           go_wp2_with fail
           go_ret;exact ⟨h4 bW.out.symm,below_drewN HK 1⟩
          | false =>
           have o1:v=0:=by rw [← At.out,B'.out,r3];rfl
           subst o1;rw [show (0:Int)+1=1 from rfl] at g4 g5;have px:Hid (∀ j,j<k+1→W.x6 j=true):=by
            intro j ay;by_cases fD:j<k
            ·exact hY.out j fD
            ·obtain rfl:j=k:=by omega
             rw [k5.out,Aj.out,dw.out,w5.out,Ak.out,Al.out,r3];rfl
           have Tt:Hid (∀ c,dB.get (dB.put l ly t.spot (0+1)) c=if (W.jg (k+1)).contains c=true then some 1 else none):=by
            intro c;rw [dB.A0,aa6.out,B'.out];by_cases E8:c=t.spot
            ·simp [E8]
            ·rw [aRL E8];simp [E8]
           have TC:Hid (∀ e∈dB.put l ly t.spot (0+1),e.1.ok):=dB.Ye Ow.out Bb;have Tu:Hid (((dB.put l ly t.spot (0+1)).map (·.1)).Nodup):=dB.H8 Ol.out _ _ _;clear r3 Bb
           go_region
           go_wp2_with fail
           go_roundw
           case rel=>exact ⟨k+1,_,_,by omega,by go_num,by rw [aaX.out],px,Tv.out.drewN 1,TC,Tu,Tt,Ah.out.drewN 1,below_drewN HK 1⟩
           case measure=>simp [intOf];omega
    ·have WV:cO t.kind 1 2=false:=p4 (by omega);have bW:Hid (W.kt=false):=ah.u2 (k:=k) (by rw [il.out];exact bw) (by rw [eh,WV];rfl);have JN:=aRF (λ V:World=>aiH t.kind V WV);have afW:(t.kind == 1)=false:=by simpa using p1
     clear eh WV p1 gS;go_wp2_with fail
     rw [JW.out];refine (JN.out _).mono ?_;rintro e cH ⟨rfl,bx⟩;have wa:=cT.trans (bx.mono cT.size);obtain ⟨t0,t1,t2,t3,t4,t5,t6⟩:=bf.ft ((B_.out.later bx));clear b1 c1 c2 c3 c4 c5 dD dT eo;obtain ⟨b1,c1,c2,c3,c4,c5,dD,dT,eo⟩:=ah.tO (GI.out.later wa);have afH:wr.heap.size<cH.heap.size:=by have:=bx.size;have:=B_.out.lt;omega
     have afI:w.heap.size<cH.heap.size:=by have:=W2;omega
     go_wp2_with fail
     go_ret;exact ⟨h4 bW.out.symm,(mq.trans (wa.mono mq.size)).trans ((lx _ _).mono (by omega))⟩
  ·obtain rfl:k=dZ:=by omega
   have de:∀ j,j<W.ak.length→W.x6 j=true:=λ j ay=>hY.out j (by rw [il.out] at ay;exact ay);have p3:W.kt=(cO W.next 1 1000000 && cO W.now 0 1000000):=by
    unfold ah.kt;rw [aSr.2 (λ j ay=>de j (aSj.1 ay)),aUz]
   have Ar:=aRF p3;clear de p3 we;cases τ:cO W.next 1 1000000 with
   | false =>
    have H1:=aRF τ;clear τ;go_wp2_with fail
    refine (pc H1.out _).mono ?_;rintro e w' ⟨rfl,rfl⟩;go_wp2_with fail
    go_ret;exact ⟨h4 (by rw [Ar.out,H1.out];rfl),mq⟩
   | true =>
    have Fa:=λ V=>SI W.now 0 1000000 V;have H1:=aRF τ;rw [H1.out,aUz] at Ar;clear τ;generalize cO W.now 0 1000000=r2 at *
    go_wp2_with fail
    refine (pc H1.out _).mono ?_;rintro e w' ⟨rfl,rfl⟩;go_wp2_with fail
    refine (Fa _).mono ?_;rintro e w' ⟨rfl,rfl⟩;go_wp2_with fail
    go_ret;exact ⟨h4 Ar.out.symm,mq⟩
end
end Go.Proofs.YtlikikpgmmkjbaaGreat
