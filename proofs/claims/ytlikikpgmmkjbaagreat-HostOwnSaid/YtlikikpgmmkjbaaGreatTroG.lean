import Derived.Test.YtlikikpgmmkjbaaGreatPtq
set_option linter.unusedVariables false
set_option linter.unusedSimpArgs false
set_option maxRecDepth 100000
set_option maxHeartbeats 4000000
open Go.RowKit
namespace Go.Proofs.YtlikikpgmmkjbaaGreat
open Tryz
abbrev aWu:=@List.setIfInBounds_toArray
abbrev aYq:=@Go.wpQuiet_nil
abbrev aZh:=@Go.World.cell?_of_block
section
theorem aCB (a:aj.cq) (W:aj) (w:World) (bQ:aj.Has w a W) (aI:W.field.bq=0) (gz:W.aZ.length≤8):
    Calls prog 89 #[.agg (aj.cells a W).toArray] w λ e w'=>e= .returned (.bool W.ox)∧Below w.heap.size w w':=by
  obtain ⟨e8,gp,gq,fG,fc,ft,fV,gB,fZ,fJ⟩:=a;show Calls _ _ #[.agg #[.int .i64 W.field.wide, .int .i64 W.field.high, .slice e8 W.field.aY.length ft, .slice gp W.aZ.length fV, .slice gq W.bg.length gB, .slice fG W.bs.length fZ, .slice fc W.ao.length fJ, .int .i64 W.next, .int .i64 W.now]] _ _;obtain ⟨ks,kh⟩:∃ n,Hid (W.aZ.length=n):=⟨_,aUl rfl⟩;obtain ⟨ns,Az⟩:∃ n,Hid (W.bg.length=n):=⟨_,aUl rfl⟩;have gz:ks≤8:=by rw [← kh.out];exact gz
  have cK:=lA w (.cells (aj.cells ⟨e8,gp,gq,fG,fc,ft,fV,gB,fZ,fJ⟩ W).toArray 28);have ju:=aUl (aN.new w (aj.cells ⟨e8,gp,gq,fG,fc,ft,fV,gB,fZ,fJ⟩ W) 28 (0,0));have mK:=aUl (bQ.keep cK);have jt:=aUl aI;obtain ⟨w0,jx⟩:∃ w0,Hid (w.alloc (.cells (aj.cells ⟨e8,gp,gq,fG,fc,ft,fV,gB,fZ,fJ⟩ W).toArray 28)=w0):=⟨_,aUl rfl⟩;rw [jx.out] at cK mK;have ju:Hid (aN w0 w.heap.size (aj.cells ⟨e8,gp,gq,fG,fc,ft,fV,gB,fZ,fJ⟩ W) 28 (0,0)):=by rw [← jx.out];exact ju
  have pz:Hid (w.alloc (.cells #[.int .i64 W.field.wide, .int .i64 W.field.high, .slice e8 W.field.aY.length ft, .slice gp ks fV, .slice gq ns gB, .slice fG W.bs.length fZ, .slice fc W.ao.length fJ, .int .i64 W.next, .int .i64 W.now] 28)=w0):=by rw [← jx.out,← kh.out,← Az.out];rfl
  obtain ⟨b3,c1,c2,c3,c4,c5,dQ,eb,eT⟩:=aj.tH ju.out;rw [kh.out] at c3;rw [Az.out] at c4;clear bQ aI;by_cases hlen:ns=ks
  · subst hlen
    have Cu:Hid (∀ j,j<0→W.x6 j=true):=aUl λ j aA=>absurd aA (by omega);go_enter func89,ntmps89;rw [kh.out,Az.out];go_wp2_with fail
    rw [pz.out];go_loopw [3,4,15] (λ _ _ hG wr=>∃ k:Nat,k≤ns∧hG= .int .i64 (k:Int)∧Hid (∀ j,j<k→W.x6 j=true)∧Below w0.heap.size w0 wr) (λ _ _ hG _=>ns - (intOf hG).toNat)
    case atStart=>exact ⟨0,aU6 _,rfl,Cu,aUN _ _⟩
    case round =>
      clear Cu b3 c1 c2 c3 c4 c5 dQ eb eT;obtain ⟨k,aw,rfl,h4,Φ⟩:=hrel;by_cases bE:k<ns
      · obtain ⟨p,hp⟩:=hC (l:=W.aZ) (i:=k) (by rw [kh.out];exact bE)
        obtain ⟨st,hs⟩:=hC (l:=W.bg) (i:=k) (by rw [Az.out];exact bE);have Q1:=mK.out.keep Φ;have agl:=ju.out.later Φ;have Q0:ay.rep.aK 16 wr gp fV W.aZ:=Q1.B;have LG:bS.aK 8 wr e8 ft W.field.aY:=Q1.P;have agt:bS.aK 8 wr gq gB W.bg:=Q1.S;have L1:(ns:Int)≤(fV:Int):=by have:=Q0.1;rw [kh.out] at this;omega
        obtain ⟨b,o,rfl,jI⟩:=ay.at_ Q0 (by rw [kh.out];omega);obtain ⟨NH,eX⟩:=jI k p hp;obtain ⟨c6,os,rfl,ag2⟩:=Gu agt (by rw [Az.out];omega);have ZG:=ag2 k st hs;obtain ⟨b3,c1,c2,c3,c4,c5,dQ,eb,eT⟩:=aj.tH agl;rw [kh.out] at c3;rw [Az.out] at c4;have dS:W.x6 k=(W.field.ground p && !(W.aZ.take k).contains p && cR st 0 1000000):=by
          unfold aj.x6;rw [aUi,hp,aUi,hs];rfl
        have cV:=lA wr (.cells #[.int .i64 p.x, .int .i64 p.y] 49);have QZ:=aN.new wr p.cells 49 (0,0);obtain ⟨aP,Us⟩:∃ aP,Hid (wr.alloc (.cells #[.int .i64 p.x, .int .i64 p.y] 49)=aP):=⟨_,aUl rfl⟩;rw [Us.out] at cV;have QZ:aN aP wr.heap.size p.cells 49 (0,0):=by rw [← Us.out];exact QZ
        obtain ⟨D3,r1⟩:=ay.fB QZ;have k6:=aUl (λ (V:World) (h:Below aP.heap.size aP V)=>LA W.field p e8 ft V ((LG.keep cV).keep h) jt.out);have Au:=aUl (λ (V:World) (h:Below aP.heap.size aP V)=>awN p (some ⟨b,o,none⟩) fV (W.aZ.take k) V (((Q0.N0 k).keep cV).keep h));have jf:(W.aZ.take k).length=k:=by rw [aUm,kh.out];omega
        rw [jf] at Au;have mf:=aUl (λ (V:World)=>Ty st 0 1000000 V);have k8:=aUl dS;have Df:=aUN aP.heap.size aP;have De:=Φ.trans (cV.mono Φ.size);have p1:(k:Int)<(ns:Int):=by omega
        have pZ:(0:Int)≤(k:Int):=by omega
        have axH:(k:Int)≤(fV:Int):=by omega
        have XH:k≤fV:=by omega
        clear Q1 agl jI ag2 hp hs dS jf Q0 LG agt;go_wp2_with fail
        rw [Us.out];have b3:=cell_later cV b3;have c1:=cell_later cV c1;have c2:=cell_later cV c2;have c3:=cell_later cV c3;have c4:=cell_later cV c4;have ZG:=cell_later cV ZG;have fw:=aUl (λ (l8:World) (h:Below aP.heap.size aP l8)=>(⟨trivial,cell_later h b3,cell_later h c1,cell_later h c2,cell_later h c3,cell_later h c4,cell_later h D3,cell_later h r1,cell_later h ZG⟩:True∧l8.cell? ⟨w.heap.size,0,none⟩=some (.int .i64 W.field.wide)∧l8.cell? ⟨w.heap.size,1,none⟩=some (.int .i64 W.field.high)∧l8.cell? ⟨w.heap.size,2,none⟩=some (.slice e8 W.field.aY.length ft)∧l8.cell? ⟨w.heap.size,3,none⟩=some (.slice (some ⟨b,o,none⟩) ns fV)∧l8.cell? ⟨w.heap.size,4,none⟩=some (.slice (some ⟨c6,os,none⟩) ns gB)∧l8.cell? ⟨wr.heap.size,0,none⟩=some (.int .i64 p.x)∧l8.cell? ⟨wr.heap.size,1,none⟩=some (.int .i64 p.y)∧l8.cell? ⟨c6,os+k,none⟩=some (.int .i64 st)));clear NH eX c5 dQ eb eT QZ;cases γ:W.field.ground p with
        | false =>
          rw [γ] at k6;have b0:Hid (W.ox=false):=aj.Zg (k:=k) (by rw [kh.out];exact bE) (by rw [k8.out,γ];rfl);clear γ;refine TC (by kernel_rfl) (by kernel_rfl) ?_;repeat (first
            | go_big_quiet_skip
            | (go_big_quiet_want
               first
               | (go_big_quiet_op;go_big_quiet_on)
               | (apply Exists.intro
                  refine ⟨λ GN I=> ?_, ?_⟩
                  · first
                    | (obtain ⟨_,Zo,Zp,Zq,Zr,Zs,Zt,Zu,Zv⟩:=fw.out GN I
                       apply Sz
                       · (go_simp;rfl)
                       · rfl)
                    | (apply Sy
                       · (go_simp;rfl)
                       · rfl
                       · first
                         | (with_reducible refine (k6.out _ I).mono ?_;rintro e cE ⟨rfl,bz⟩;exact ⟨rfl,oa I bz⟩)
                         | (with_reducible refine (Au.out _ I).mono ?_;rintro e cE ⟨rfl,bz⟩;exact ⟨rfl,oa I bz⟩)
                         | (with_reducible refine (mf.out _).mono ?_;rintro e cE ⟨rfl,rfl⟩;exact ⟨rfl,I⟩)
                       )
                  go_big_quiet_on
                  simp only [Act.put,aWu,aWe,aWf])))
          refine aYq ?_;intro B1 bB;go_wp2_with fail
          go_ret;exact ⟨ib b0.out.symm,cK.trans ((De.trans (aYH bB De.size)).mono cK.size)⟩
        | true =>
          rw [γ] at k6;cases aa:(W.aZ.take k).contains p with
          | true =>
            rw [aa] at Au;have b0:Hid (W.ox=false):=aj.Zg (k:=k) (by rw [kh.out];exact bE) (by rw [k8.out,γ,aa];rfl);clear γ aa;refine TC (by kernel_rfl) (by kernel_rfl) ?_;repeat (first
              | go_big_quiet_skip
              | (go_big_quiet_want
                 first
                 | (go_big_quiet_op;go_big_quiet_on)
                 | (apply Exists.intro
                    refine ⟨λ GN I=> ?_, ?_⟩
                    · first
                      | (obtain ⟨_,Zo,Zp,Zq,Zr,Zs,Zt,Zu,Zv⟩:=fw.out GN I
                         apply Sz
                         · (go_simp;rfl)
                         · rfl)
                      | (apply Sy
                         · (go_simp;rfl)
                         · rfl
                         · first
                           | (with_reducible refine (k6.out _ I).mono ?_;rintro e cE ⟨rfl,bz⟩;exact ⟨rfl,oa I bz⟩)
                           | (with_reducible refine (Au.out _ I).mono ?_;rintro e cE ⟨rfl,bz⟩;exact ⟨rfl,oa I bz⟩)
                           | (with_reducible refine (mf.out _).mono ?_;rintro e cE ⟨rfl,rfl⟩;exact ⟨rfl,I⟩)
                         )
                    go_big_quiet_on
                    simp only [Act.put,aWu,aWe,aWf])))
            refine aYq ?_;intro B1 bB;go_wp2_with fail
            go_ret;exact ⟨ib b0.out.symm,cK.trans ((De.trans (aYH bB De.size)).mono cK.size)⟩
          | false =>
            rw [aa] at Au;cases av:cR st 0 1000000 with
            | false =>
              rw [av] at mf;have b0:Hid (W.ox=false):=aj.Zg (k:=k) (by rw [kh.out];exact bE) (by rw [k8.out,av,aYv]);clear γ aa av;refine TC (by kernel_rfl) (by kernel_rfl) ?_;repeat (first
                | go_big_quiet_skip
                | (go_big_quiet_want
                   first
                   | (go_big_quiet_op;go_big_quiet_on)
                   | (apply Exists.intro
                      refine ⟨λ GN I=> ?_, ?_⟩
                      · first
                        | (obtain ⟨_,Zo,Zp,Zq,Zr,Zs,Zt,Zu,Zv⟩:=fw.out GN I
                           apply Sz
                           · (go_simp;rfl)
                           · rfl)
                        | (apply Sy
                           · (go_simp;rfl)
                           · rfl
                           · first
                             | (with_reducible refine (k6.out _ I).mono ?_;rintro e cE ⟨rfl,bz⟩;exact ⟨rfl,oa I bz⟩)
                             | (with_reducible refine (Au.out _ I).mono ?_;rintro e cE ⟨rfl,bz⟩;exact ⟨rfl,oa I bz⟩)
                             | (with_reducible refine (mf.out _).mono ?_;rintro e cE ⟨rfl,rfl⟩;exact ⟨rfl,I⟩)
                           )
                      go_big_quiet_on
                      simp only [Act.put,aWu,aWe,aWf])))
              refine aYq ?_;intro B1 bB;go_wp2_with fail
              go_ret;exact ⟨ib b0.out.symm,cK.trans ((De.trans (aYH bB De.size)).mono cK.size)⟩
            | true =>
              rw [av] at mf;have pq:Hid (∀ j,j<k+1→W.x6 j=true):=by
                intro j aA;by_cases hg:j<k
                · exact h4.out j hg
                · obtain rfl:j=k:=by omega
                  rw [k8.out,γ,aa,av];rfl
              clear γ aa av;refine TC (by kernel_rfl) (by kernel_rfl) ?_;repeat (first
                | go_big_quiet_skip
                | (go_big_quiet_want
                   first
                   | (go_big_quiet_op;go_big_quiet_on)
                   | (apply Exists.intro
                      refine ⟨λ GN I=> ?_, ?_⟩
                      · first
                        | (obtain ⟨_,Zo,Zp,Zq,Zr,Zs,Zt,Zu,Zv⟩:=fw.out GN I
                           apply Sz
                           · (go_simp;rfl)
                           · rfl)
                        | (apply Sy
                           · (go_simp;rfl)
                           · rfl
                           · first
                             | (with_reducible refine (k6.out _ I).mono ?_;rintro e cE ⟨rfl,bz⟩;exact ⟨rfl,oa I bz⟩)
                             | (with_reducible refine (Au.out _ I).mono ?_;rintro e cE ⟨rfl,bz⟩;exact ⟨rfl,oa I bz⟩)
                             | (with_reducible refine (mf.out _).mono ?_;rintro e cE ⟨rfl,rfl⟩;exact ⟨rfl,I⟩)
                           )
                      go_big_quiet_on
                      simp only [Act.put,aWu,aWe,aWf])))
              refine aYq ?_;intro B1 bB;go_wp2_with fail
              go_roundw
              case rel=>exact ⟨k+1,by omega,by go_num,pq,De.trans (aYH bB De.size)⟩
              case measure=>simp [intOf];omega
      · have ru:Hid (W.ox=true):=aj.akR (by rw [Az.out,kh.out]) λ j aA=>h4.out j (by rw [kh.out] at aA;omega)
        clear h4;go_wp2_with fail
        go_ret;exact ⟨ib ru.out.symm,cK.trans (Φ.mono cK.size)⟩
  · have ru:Hid (W.ox=false):=aj.aCC (by rw [Az.out,kh.out];exact hlen)
    have hd:((ns:Int) != (ks:Int))=true:=by simp;omega
    rw [ru.out];go_enter func89,ntmps89;rw [kh.out,Az.out];go_wp2_with fail
    go_ret;rw [pz.out];exact ⟨Z,cK⟩
end
section
theorem aBj (a:aj.cq) (W:aj) (w:World) (bQ:aj.Has w a W):
  Calls prog 90 #[.agg (aj.cells a W).toArray] w λ e w'=>e= .returned (.bool W.o')∧Below w.heap.size w w':=by
 obtain ⟨e8,gp,gq,fG,fc,ft,fV,gB,fZ,fJ⟩:=a;show Calls _ _ #[.agg #[.int .i64 W.field.wide, .int .i64 W.field.high, .slice e8 W.field.aY.length ft, .slice gp W.aZ.length fV, .slice gq W.bg.length gB, .slice fG W.bs.length fZ, .slice fc W.ao.length fJ, .int .i64 W.next, .int .i64 W.now]] _ _;have cK:=lA w (.cells (aj.cells ⟨e8,gp,gq,fG,fc,ft,fV,gB,fZ,fJ⟩ W).toArray 28);have ju:=aUl (aN.new w (aj.cells ⟨e8,gp,gq,fG,fc,ft,fV,gB,fZ,fJ⟩ W) 28 (0,0));have mK:=aUl (bQ.keep cK);obtain ⟨w0,jx⟩:∃ w0,Hid (w.alloc (.cells (aj.cells ⟨e8,gp,gq,fG,fc,ft,fV,gB,fZ,fJ⟩ W).toArray 28)=w0):=⟨_,aUl rfl⟩;rw [jx.out] at cK mK;have ju:Hid (aN w0 w.heap.size (aj.cells ⟨e8,gp,gq,fG,fc,ft,fV,gB,fZ,fJ⟩ W) 28 (0,0)):=by rw [← jx.out];exact ju
 obtain ⟨nm,tZ⟩:∃ n,Hid (W.bs.length=n):=⟨_,aUl rfl⟩;obtain ⟨Nx,Ay⟩:∃ n,Hid (W.field.aY.length=n):=⟨_,aUl rfl⟩;have hle:nm≤9223372036854775807:=by have:=bQ.M.dT;rw [tZ.out] at this;exact this
 have pz:Hid (w.alloc (.cells #[.int .i64 W.field.wide, .int .i64 W.field.high, .slice e8 Nx ft, .slice gp W.aZ.length fV, .slice gq W.bg.length gB, .slice fG nm fZ, .slice fc W.ao.length fJ, .int .i64 W.next, .int .i64 W.now] 28)=w0):=by rw [← jx.out,← tZ.out,← Ay.out];rfl
 obtain ⟨b3,c1,c2,c3,c4,c5,dQ,eb,eT⟩:=aj.tH ju.out;rw [Ay.out] at c2;rw [tZ.out] at c5;clear bQ;by_cases hlen:nm=Nx
 ·subst hlen;have Cu:Hid (∀ j,j<0→W.x7 j=true):=aUl λ j aA=>absurd aA (by omega);go_enter func90,ntmps90;rw [Ay.out,tZ.out];go_wp2_with fail
  rw [pz.out];go_loopw [3,4,16] (λ _ _ hG wr=>∃ k:Nat,k≤nm∧hG= .int .i64 (k:Int)∧Hid (∀ j,j<k→W.x7 j=true)∧Hid (wr=w0)) (λ _ _ hG _=>nm - (intOf hG).toNat)
  case atStart=>exact ⟨0,aU6 _,rfl,Cu,rfl⟩
  case round =>
   clear Cu b3 c1 c2 c3 c4 c5 dQ eb eT;obtain ⟨k,aw,rfl,h4,Hn⟩:=hrel;obtain ⟨b3,c1,c2,c3,c4,c5,dQ,eb,eT⟩:=aj.tH (show aN wr w.heap.size (aj.cells ⟨e8,gp,gq,fG,fc,ft,fV,gB,fZ,fJ⟩ W) 28 (0,0) by rw [Hn.out];exact ju.out);rw [Ay.out] at c2;rw [tZ.out] at c5;have mm:Below w.heap.size w wr:=by rw [Hn.out];exact cK
   by_cases bE:k<nm
   ·obtain ⟨p,hp⟩:=hC (l:=W.field.aY) (i:=k) (by rw [Ay.out];exact bE);obtain ⟨m,hm⟩:=hC (l:=W.bs) (i:=k) (by rw [tZ.out];exact bE);have LG:bS.aK 8 wr e8 ft W.field.aY:=by rw [Hn.out];exact mK.out.P
    have ags:bS.aK 8 wr fG fZ W.bs:=by rw [Hn.out];exact mK.out.M
    obtain ⟨b,o,rfl,jI⟩:=Gu LG (by rw [Ay.out];omega);have NH:=jI k p hp;obtain ⟨aKr,aP0,rfl,ag1⟩:=Gu ags (by rw [tZ.out];omega);have m0:=ag1 k m hm;have dS:W.x7 k=(cR m 0 1000000 && (decide (m≤0) || p == 3)):=by
     unfold aj.x7;rw [aUi,hm,aUi,hp];rfl
    have mf:=aUl (λ (V:World)=>Ty m 0 1000000 V);have k8:=aUl dS;have p1:(k:Int)<(nm:Int):=by omega
    have pZ:(0:Int)≤(k:Int):=by omega
    clear LG ags jI ag1 hp hm dS;cases γ:cR m 0 1000000 with
    | false =>
     rw [γ] at mf;have b0:Hid (W.o'=false):=aj.ake (k:=k) (by rw [tZ.out];exact bE) (by rw [k8.out,γ];rfl);clear γ;go_wp2_with fail
     refine (mf.out _).mono ?_;rintro e w' ⟨rfl,rfl⟩;go_wp2_with fail
     go_ret;exact ⟨ib b0.out.symm,mm⟩
    | true =>
     rw [γ] at mf;by_cases aa:m≤0
     ·have hd:decide (0<m)=false:=by simp;omega
      have pq:Hid (∀ j,j<k+1→W.x7 j=true):=by
       intro j aA;by_cases hg:j<k
       ·exact h4.out j hg
       ·obtain rfl:j=k:=by omega
        rw [k8.out,γ,aUL aa];rfl
      clear γ;go_wp2_with fail
      refine (mf.out _).mono ?_;rintro e w' ⟨rfl,rfl⟩;go_wp2_with fail
      go_roundw
      case rel=>exact ⟨k+1,by omega,by go_num,pq,Hn⟩
      case measure=>simp [intOf];omega
     ·have hd:decide (0<m)=true:=by simp;omega
      by_cases av:p=3
      ·subst av;have pq:Hid (∀ j,j<k+1→W.x7 j=true):=by
        intro j aA;by_cases hg:j<k
        ·exact h4.out j hg
        ·obtain rfl:j=k:=by omega
         rw [k8.out,γ];simp
       clear γ aa;go_wp2_with fail
       refine (mf.out _).mono ?_;rintro e w' ⟨rfl,rfl⟩;go_wp2_with fail
       go_roundw
       case rel=>exact ⟨k+1,by omega,by go_num,pq,Hn⟩
       case measure=>simp [intOf];omega
      ·have b0:Hid (W.o'=false):=aj.ake (k:=k) (by rw [tZ.out];exact bE) (by rw [k8.out,aUU aa,beq_false_of_ne av];simp);have Iu:(p == 3)=false:=by simpa using av
       clear γ aa av;go_wp2_with fail
       refine (mf.out _).mono ?_;rintro e w' ⟨rfl,rfl⟩;go_wp2_with fail
       go_ret;exact ⟨ib b0.out.symm,mm⟩
   ·have ru:Hid (W.o'=true):=aj.akf (by rw [tZ.out,Ay.out]) λ j aA=>h4.out j (by rw [tZ.out] at aA;omega);clear h4;go_wp2_with fail
    go_ret;exact ⟨ib ru.out.symm,mm⟩
 ·have ru:Hid (W.o'=false):=aj.aBk (by rw [tZ.out,Ay.out];exact hlen);have hd:((nm:Int) != (Nx:Int))=true:=by simp;omega
  rw [ru.out];go_enter func90,ntmps90;rw [Ay.out,tZ.out];go_wp2_with fail
  go_ret;rw [pz.out];exact ⟨Z,cK⟩
end
section
theorem pd {n lo aq:Int} {b:Bool} (h:cR n lo aq=b) (w:World):Calls prog 127 #[.int .i64 n, .int .i64 lo, .int .i64 aq] w λ e w'=>e= .returned (.bool b)∧w=w':=by
 have:=Ty n lo aq w;rw [h] at this;exact this
theorem dO.drewN {gD:Type} {key:gD→Value} {w:World} {b:Nat} {l:List (gD×Int×Nat)} {clock:Nat} (h:dO key w b l clock) (n:Nat):dO key (w.drewN n) b l clock:=⟨h.fB,h.born,h.stamps⟩
theorem ae6 (w:World):w.drewN 1=w.drew:=rfl
theorem aN.of_heap {w w':World} {g:Nat} {cur:List Value} {e:TypeId} {aC:Nat×Nat} (h:aN w g cur e aC) (fp:w'.heap[g]? =w.heap[g]?):aN w' g cur e aC:=fp.trans h
theorem afG {w:World} {b:Nat} {l:List (ay×Int×Nat)} {lB:Nat} (h:dO ay.key w b l lB) (hw:∀ e∈l,e.1.ok) (hn:(l.map (·.1)).Nodup) (x:ay) (hx:x.ok) (v:Int) (hv:(dO.get l x).getD 0=v):
  ∃ (st:Nat) (eE:List (ay×Int×Nat)) (c1:Nat) (yl sv:World),
   (∀ n,(Instr.lookup 205 (.map (some b)) (.agg #[.int .i64 x.x, .int .i64 x.y]) false).run prog (w.drewN n)= .ok (.int .i64 v) (w.drewN n))∧
   (∀ n,(Instr.mapEntry 205 (.map (some b)) (.agg #[.int .i64 x.x, .int .i64 x.y])).run prog (w.drewN n)= .ok (.tuple #[.int .i64 v, .int .i64 (st:Int)]) (yl.drewN n))∧
   (∀ n,(Instr.lookup 205 (.map (some b)) (.agg #[.int .i64 x.x, .int .i64 x.y]) false).run prog (yl.drewN n)= .ok (.int .i64 v) (yl.drewN n))∧
   (∀ n,(Instr.entryStore 205 (.map (some b)) (.int .i64 (st:Int)) (.int .i64 (v+1))).run prog (yl.drewN n)= .ok () (sv.drewN n))∧
   (∀ n,(Instr.lookup 205 (.map (some b)) (.agg #[.int .i64 x.x, .int .i64 x.y]) false).run prog (sv.drewN n)= .ok (.int .i64 (v+1)) (sv.drewN n))∧
   dO ay.key sv b (dO.put l lB x (v+1)) (dO.tick l lB x)∧
   (∀ p:Addr,p.block≠b→yl.cell? p=w.cell? p)∧(∀ p:Addr,p.block≠b→sv.cell? p=w.cell? p)∧
   ∀ {B:Nat} {a:World},B≤b→(Below B a w→Below B a sv)∧(∀ g,g≠b→sv.heap[g]? =w.heap[g]?):=by
 obtain ⟨st,eE,dF,a8,bl,cZ,jP,Le,Lf⟩:=dO.entry ay.zp underlying205 aYn h hw hn x hx;have Ds:=λ n=>(dO.lookup (w:=w.drewN n) ay.zp underlying205 (aYn _) (h.drewN n) hw hn x hx).1;have Dt:=λ n=>(dO.lookup (w:=(iT w b (eE.map (dR ay.key)).toArray dF).drewN n) ay.zp underlying205 (aYn _) (bl.drewN n) cZ jP x hx).1;have hp:=(Lf (v+1) 0).2;have Du:=λ n=>(dO.lookup (w:=(iT w b ((dO.put l lB x (v+1)).map (dR ay.key)).toArray (dO.tick l lB x)).drewN n) ay.zp underlying205 (aYn _) (hp.drewN n) (dO.YT hw hx) (dO.IM hn lB x (v+1)) x hx).1;simp only [Le,hv,aVq] at Ds Dt a8;simp only [dO.A9,aUz,aVq] at Du;exact ⟨st,eE,dF,_,_,Ds,a8,Dt,λ n=>(Lf (v+1) n).1,Du,hp,λ p hp=>aZh (NR hp),λ p hp=>aZh (NR hp),
  fun {B a} ba=>⟨λ Φ=>aD7 Φ ba,λ g aS=>NR aS⟩⟩
theorem aEV (a:aj.cq) (W:aj) (w:World) (bQ:aj.Has w a W) (aI:W.field.bq=0) (gz:W.aZ.length≤8) (xH:W.ao.length≤100):
  Calls prog 91 #[.agg (aj.cells a W).toArray] w λ e w'=>e= .returned (.bool W.kt)∧Below w.heap.size w w':=by
 obtain ⟨e8,gp,gq,fG,fc,ft,fV,gB,fZ,fJ⟩:=a;show Calls _ _ #[.agg #[.int .i64 W.field.wide, .int .i64 W.field.high, .slice e8 W.field.aY.length ft, .slice gp W.aZ.length fV, .slice gq W.bg.length gB, .slice fG W.bs.length fZ, .slice fc W.ao.length fJ, .int .i64 W.next, .int .i64 W.now]] _ _;have cK:=lA w (.cells (aj.cells ⟨e8,gp,gq,fG,fc,ft,fV,gB,fZ,fJ⟩ W).toArray 28);have ju:=aUl (aN.new w (aj.cells ⟨e8,gp,gq,fG,fc,ft,fV,gB,fZ,fJ⟩ W) 28 (0,0));have mK:=aUl (bQ.keep cK);obtain ⟨w0,jx⟩:∃ w0,Hid (w.alloc (.cells (aj.cells ⟨e8,gp,gq,fG,fc,ft,fV,gB,fZ,fJ⟩ W).toArray 28)=w0):=⟨_,aUl rfl⟩;rw [jx.out] at cK mK;have ju:Hid (aN w0 w.heap.size (aj.cells ⟨e8,gp,gq,fG,fc,ft,fV,gB,fZ,fJ⟩ W) 28 (0,0)):=by rw [← jx.out];exact ju
 obtain ⟨eF,iy⟩:∃ n,Hid (W.ao.length=n):=⟨_,aUl rfl⟩;obtain ⟨ks,kh⟩:∃ n,Hid (W.aZ.length=n):=⟨_,aUl rfl⟩;have gz:ks≤8:=by rw [← kh.out];exact gz
 have xH:eF≤100:=by rw [← iy.out];exact xH
 have jt:=aUl aI;have Cv:=aUl bQ;obtain ⟨jV,s6⟩:∃ jV,wrap64 (W.next - 1)=jV:=⟨_,rfl⟩;have ab0:=aUl s6;have pz:Hid (w.alloc (.cells #[.int .i64 W.field.wide, .int .i64 W.field.high, .slice e8 W.field.aY.length ft, .slice gp ks fV, .slice gq W.bg.length gB, .slice fG W.bs.length fZ, .slice fc eF fJ, .int .i64 W.next, .int .i64 W.now] 28)=w0):=by rw [← jx.out,← kh.out,← iy.out];rfl
 obtain ⟨b3,c1,c2,c3,c4,c5,dQ,eb,eT⟩:=aj.tH ju.out;rw [kh.out] at c3;rw [iy.out] at dQ;clear bQ aI;have Rs:=@run_makeMap prog;have Rq:=dO.made (key:=ay.key) w0;have Xf:=lA w0 (.map #[] 0);obtain ⟨ana,aca⟩:∃ ana,Hid (w0.alloc (.map #[] 0)=ana):=⟨_,aUl rfl⟩;rw [aca.out] at Rq Xf;have jh:w0.heap.size=w.heap.size+1:=by rw [← jx.out];simp
 rw [jh] at Rq;have Ul:=aUl Rq;have Cu:Hid (∀ j,j<0→W.x8 j=true):=aUl λ j aA=>absurd aA (by omega);clear Rq;go_enter func91,ntmps91;rw [kh.out,iy.out];go_wp2_with fail
 rw [pz.out,aca.out];have abY:Hid (bS.aK 8 w e8 ft W.field.aY):=aUl Cv.out.P;have aoC:Hid (bd.rep.aK 56 w fc fJ W.ao):=aUl Cv.out.T;have aL4:=xH;have Fy:=ju.out.later Xf;have agL:=cK.trans (Xf.mono cK.size);clear b3 c1 c2 c3 c4 c5 dQ eb eT Rs;obtain ⟨eW,Um⟩:∃ eW,Hid (w.heap.size+1=eW):=⟨_,aUl rfl⟩;rw [Um.out];rw [Um.out] at Ul;go_loopw [3,6,7,8,9,14] (λ aAW _ _ _ _ hG wr=>∃ (k:Nat) (l:List (ay×Int×Nat)) (lB:Nat),k≤eF∧hG= .int .i64 (k:Int)∧aAW= .int .i64 (W.jR k)∧Hid (∀ j,j<k→W.x8 j=true)∧Hid (dO ay.key wr eW l lB)∧Hid (∀ e∈l,e.1.ok)∧Hid ((l.map (·.1)).Nodup)∧Hid (∀ c,dO.get l c=if (W.jm k).contains c=true then some 1 else none)∧Hid (aN wr w.heap.size (aj.cells ⟨e8,gp,gq,fG,fc,ft,fV,gB,fZ,fJ⟩ W) 28 (0,0))∧Below w.heap.size w wr) (λ _ _ _ _ _ hG _=>eF - (intOf hG).toNat)
 case atStart=>exact ⟨0, [],0,aU6 _,rfl,rfl,Cu,Ul,(λ e he=>by simp at he),aXK,(λ c=>by simp [dO.get,aj.jm]),Fy,agL⟩
 case round =>
  clear Cu Ul Fy agL;obtain ⟨k,l,lB,aw,rfl,rfl,h4,k7,Pp,Pg,Cs,Hh,mm⟩:=hrel;obtain ⟨b3,c1,c2,c3,c4,c5,dQ,eb,eT⟩:=aj.tH Hh.out;rw [kh.out] at c3;rw [iy.out] at dQ;by_cases bE:k<eF
  ·obtain ⟨t,aF⟩:=hC (l:=W.ao) (i:=k) (by rw [iy.out];exact bE);have agu:=aoC.out.keep mm;obtain ⟨b,o,rfl,jI⟩:=bd.at_ agu (by rw [iy.out];omega);obtain ⟨NH,eX,fL,m_,x',aP2,aP3⟩:=jI k t aF;obtain ⟨fD,r8⟩:∃ fD,wrap64 (W.jR k+1)=fD:=⟨_,rfl⟩;have dS:W.x8 k=(W.NB fD jV t && !(W.jm k).contains t.spot):=by
    unfold aj.x8;rw [aUi,aF,r8,ab0.out];rfl
   unfold aj.NB at dS;rw [kh.out] at dS;have ahJ:W.jR (k+1)=t.id:=by
    unfold aj.jR;rw [aUr (by omega),aUi,aXX,aF];rfl
   have aia:W.jm (k+1)=W.jm k++ [t.spot]:=by
    unfold aj.jm;rw [aUM (by rw [iy.out];exact bE),aUK];have:W.ao[k]'(by rw [iy.out];exact bE)=t:=by
     rw [aUk (by rw [iy.out];exact bE)] at aF;exact aUh aF
    rw [this];rfl
   have abZ:=aUl ahJ;have ab8:=aUl aia;have cV:=lA wr (.cells #[.int .i64 t.id, .int .i64 t.owner, .int .i64 t.kind, .int .i64 t.spot.x, .int .i64 t.spot.y, .int .i64 t.dc, .int .i64 t.load] 66);have agp:=aN.new wr t.cells 66 (0,0);obtain ⟨aP,KD⟩:∃ aP,Hid (wr.alloc (.cells #[.int .i64 t.id, .int .i64 t.owner, .int .i64 t.kind, .int .i64 t.spot.x, .int .i64 t.spot.y, .int .i64 t.dc, .int .i64 t.load] 66)=aP):=⟨_,aUl rfl⟩;rw [KD.out] at cV;have Cr:Hid (aN aP wr.heap.size t.cells 66 (0,0)):=by rw [← KD.out];exact agp
   have XN:eW<wr.heap.size:=k7.out.lt;have ahC:w.heap.size<eW:=by have:=Um.out;omega
   have p1:(k:Int)<(eF:Int):=by omega
   have pZ:(0:Int)≤(k:Int):=by omega
   have aMu:(0:Int)≤(ks:Int)∧(ks:Int)≤8:=by omega
   clear agu jI aF ahJ aia agp s6;have s6:=ab0.out;by_cases p0:t.kind=1
   ·have AD:=aUl p0;rw [p0] at fL;clear p0;have Kt:=aUl (λ V:World=>ajx V);have Mb:aj.kb 1=10:=rfl;have Mc:aj.BB 1=5:=rfl;rw [AD.out,Mb,Mc] at dS;have k8:=aUl dS;clear Mb Mc dS;have Ur:Hid (wr.alloc (.cells #[.int .i64 t.id, .int .i64 t.owner, .int .i64 1, .int .i64 t.spot.x, .int .i64 t.spot.y, .int .i64 t.dc, .int .i64 t.load] 66)=aP):=by rw [← KD.out,AD.out];rfl
    go_wp2_with fail
    rw [Ur.out];refine (Kt.out _).mono ?_;rintro e cE ⟨rfl,bz⟩;have wb:=cV.trans (bz.mono cV.size);have dV:=lA cE (.cells #[.int .i64 10, .int .i64 1, .int .i64 1, .int .i64 5] 207);have A':=aN.new cE [.int .i64 10, .int .i64 1, .int .i64 1, .int .i64 5] 207 (0,0);obtain ⟨w3,EV⟩:∃ w3,Hid (cE.alloc (.cells #[.int .i64 10, .int .i64 1, .int .i64 1, .int .i64 5] 207)=w3):=⟨_,aUl rfl⟩;rw [EV.out] at dV;have A':aN w3 cE.heap.size [.int .i64 10, .int .i64 1, .int .i64 1, .int .i64 5] 207 (0,0):=by rw [← EV.out];exact A'
    have Bl:w3.cell? ⟨cE.heap.size,0,none⟩=some (.int .i64 10):=A'.cell 0;have rY:=wb.trans (dV.mono wb.size);have EM:=aUl ((Cr.out.later bz).later dV);have Ku:=aUl (k7.out.later rY);have EL:=aUl (Hh.out.later rY);have FK:=mm.trans (rY.mono mm.size);have Kr:=aUl (abY.out.keep FK);obtain ⟨t0,t1,t2,t3,t4,t5,t6⟩:=bd.fB ((Cr.out.later bz));rw [AD.out] at t2;clear b3 c1 c2 c3 c4 c5 dQ eb eT;obtain ⟨b3,c1,c2,c3,c4,c5,dQ,eb,eT⟩:=aj.tH (Hh.out.later wb);rw [kh.out] at c3;rw [iy.out] at dQ;have agO:wr.heap.size<cE.heap.size:=by have:=bz.size;have:=Cr.out.lt;omega
    have agP:w.heap.size<cE.heap.size:=by have:=XN;omega
    go_wp2_with fail
    rw [EV.out];clear t0 t1 t2 t3 t4 t5 t6 b3 c1 c2 c3 c4 c5 dQ eb eT;obtain ⟨t0,t1,t2,t3,t4,t5,t6⟩:=bd.fB EM.out;obtain ⟨b3,c1,c2,c3,c4,c5,dQ,eb,eT⟩:=aj.tH EL.out;rw [kh.out] at c3;rw [iy.out] at dQ;rw [AD.out] at t2;clear bz A' dV wb;cases aI:cR t.id fD jV with
    | false =>
     have b0:Hid (W.kt=false):=aj.u0 (k:=k) (by rw [iy.out];exact bE) (by rw [k8.out,aI];simp);have Av:=aUl aI;clear aI;refine (pd Av.out _).mono ?_;rintro e w' ⟨rfl,rfl⟩;go_wp2_with fail
     go_ret;exact ⟨ib b0.out.symm,FK⟩
    | true =>
     have Av:=aUl aI;clear aI;refine (pd Av.out _).mono ?_;rintro e w' ⟨rfl,rfl⟩;go_wp2_with fail
     cases γ:cR t.owner 0 ((ks:Int) - 1) with
     | false =>
      have b0:Hid (W.kt=false):=aj.u0 (k:=k) (by rw [iy.out];exact bE) (by rw [k8.out,γ];simp);have dG:=aUl γ;clear γ;refine (pd dG.out _).mono ?_;rintro e w' ⟨rfl,rfl⟩;go_wp2_with fail
      go_ret;exact ⟨ib b0.out.symm,FK⟩
     | true =>
      have dG:=aUl γ;clear γ;refine (pd dG.out _).mono ?_;rintro e w' ⟨rfl,rfl⟩;go_wp2_with fail
      cases aa:W.field.ground t.spot with
      | false =>
       have b0:Hid (W.kt=false):=aj.u0 (k:=k) (by rw [iy.out];exact bE) (by rw [k8.out,aa];simp);have xb:=aUl aa;clear aa;have k6:=LA W.field t.spot e8 ft _ Kr.out jt.out;rw [xb.out] at k6;refine k6.mono ?_;rintro e tF ⟨rfl,dI⟩;have FG:=rY.trans (dI.mono rY.size);have xM:=mm.trans (FG.mono mm.size);have EN:=aUl (EM.out.later dI);have Kv:=aUl (Ku.out.later dI);have Kq:=aUl (EL.out.later dI);clear t0 t1 t2 t3 t4 t5 t6 b3 c1 c2 c3 c4 c5 dQ eb eT k6;obtain ⟨t0,t1,t2,t3,t4,t5,t6⟩:=bd.fB EN.out;have Bl:=cell_later dI Bl;go_wp2_with fail
       go_ret;exact ⟨ib b0.out.symm,xM⟩
      | true =>
       have xb:=aUl aa;clear aa;have k6:=LA W.field t.spot e8 ft _ Kr.out jt.out;rw [xb.out] at k6;refine k6.mono ?_;rintro e tF ⟨rfl,dI⟩;have FG:=rY.trans (dI.mono rY.size);have xM:=mm.trans (FG.mono mm.size);have EN:=aUl (EM.out.later dI);have Kv:=aUl (Ku.out.later dI);have Kq:=aUl (EL.out.later dI);clear t0 t1 t2 t3 t4 t5 t6 b3 c1 c2 c3 c4 c5 dQ eb eT k6;obtain ⟨t0,t1,t2,t3,t4,t5,t6⟩:=bd.fB EN.out;have Bl:=cell_later dI Bl;go_wp2_with fail
       cases av:cR t.dc 1 10 with
       | false =>
        have b0:Hid (W.kt=false):=aj.u0 (k:=k) (by rw [iy.out];exact bE) (by rw [k8.out,av];simp);have Aw:=aUl av;clear av;refine (pd Aw.out _).mono ?_;rintro e w' ⟨rfl,rfl⟩;go_wp2_with fail
        go_ret;exact ⟨ib b0.out.symm,xM⟩
       | true =>
        have Aw:=aUl av;clear av;refine (pd Aw.out _).mono ?_;rintro e w' ⟨rfl,rfl⟩;go_wp2_with fail
        cases aV:cR t.load 0 5 with
        | false =>
         have b0:Hid (W.kt=false):=aj.u0 (k:=k) (by rw [iy.out];exact bE) (by rw [k8.out,aV];simp);have Ax:=aUl aV;clear aV;refine (pd Ax.out _).mono ?_;rintro e w' ⟨rfl,rfl⟩;go_wp2_with fail
         go_ret;exact ⟨ib b0.out.symm,xM⟩
        | true =>
         have Ax:=aUl aV;clear aV;refine (pd Ax.out _).mono ?_;rintro e w' ⟨rfl,rfl⟩;go_wp2_with fail
         have Bi:t.spot.ok:=by
          obtain ⟨i1,i2,i3,i4,i5,i6⟩:=aE.idx jt.out (aE.j_ xb.out);obtain ⟨g1,g2,g3,g4,_,_⟩:=aE.km jt.out;exact ⟨bN.2 (by omega),bN.2 (by omega)⟩
         obtain ⟨v,AF⟩:∃ v,Hid ((dO.get l t.spot).getD 0=v):=⟨_,aUl rfl⟩;obtain ⟨st,eE,dF,yl,sv,pA⟩:=afG Kv.out Pp.out Pg.out t.spot Bi v AF.out;obtain ⟨Ds,a8,Dt,f1,Du,FR,Ms,Mt,Bd⟩:=pA;have ayX:0≤v∧v≤1:=by
          rw [← AF.out,Cs.out];split<;>simp
         have Uk:=aUl FR;have KC:=aUl Ms;have AB:=aUl Mt;have Ip:=(Bd (Nat.le_of_lt ahC)).1 xM;have At:=aUl (Kq.out.of_heap ((Bd (B:=0) (a:=tF) (aU6 _)).2 _ (by omega)));have yc:yl.cell? ⟨wr.heap.size,3,none⟩=some (.int .i64 t.spot.x):=(KC.out _ (by simp;omega)).trans t3;have Jl:yl.cell? ⟨wr.heap.size,4,none⟩=some (.int .i64 t.spot.y):=(KC.out _ (by simp;omega)).trans t4;have D3:sv.cell? ⟨wr.heap.size,0,none⟩=some (.int .i64 t.id):=(AB.out _ (by simp;omega)).trans t0;have yf:sv.cell? ⟨wr.heap.size,3,none⟩=some (.int .i64 t.spot.x):=(AB.out _ (by simp;omega)).trans t3;have aDv:sv.cell? ⟨wr.heap.size,4,none⟩=some (.int .i64 t.spot.y):=(AB.out _ (by simp;omega)).trans t4;have g1:=Ds 1;have g2:=a8 1;have g3:=Dt 1;have g4:=f1 1;have g5:=Du 1;clear FR Ms Mt Bd Ds a8 Dt f1 Du;simp only [ae6] at g1 g2 g3 g4 g5;cases r5:(W.jm k).contains t.spot with
         | true =>
          have nI:v=1:=by rw [← AF.out,Cs.out,r5];rfl
          subst nI;rw [show (1:Int)+1=2 from rfl] at g4 g5;have b0:Hid (W.kt=false):=aj.u0 (k:=k) (by rw [iy.out];exact bE) (by rw [k8.out,r5];simp);clear r5
          go_region
          go_wp2_with fail
          go_ret;exact ⟨ib b0.out.symm,below_drewN Ip 1⟩
         | false =>
          have nI:v=0:=by rw [← AF.out,Cs.out,r5];rfl
          subst nI;rw [show (0:Int)+1=1 from rfl] at g4 g5;have pq:Hid (∀ j,j<k+1→W.x8 j=true):=by
           intro j aA;by_cases hg:j<k
           ·exact h4.out j hg
           ·obtain rfl:j=k:=by omega
            rw [k8.out,Av.out,dG.out,xb.out,Aw.out,Ax.out,r5];rfl
          have Ui:Hid (∀ c,dO.get (dO.put l lB t.spot (0+1)) c=if (W.jm (k+1)).contains c=true then some 1 else none):=by
           intro c;rw [dO.A9,ab8.out,Cs.out];by_cases FM:c=t.spot
           ·simp [FM]
           ·rw [aUr FM];simp [FM]
          have Ut:Hid (∀ e∈dO.put l lB t.spot (0+1),e.1.ok):=dO.YT Pp.out Bi;have Uj:Hid (((dO.put l lB t.spot (0+1)).map (·.1)).Nodup):=dO.IM Pg.out _ _ _;clear r5 Bi
          go_region
          go_wp2_with fail
          go_roundw
          case rel=>exact ⟨k+1,_,_,by omega,by go_num,by rw [abZ.out],pq,Uk.out.drewN 1,Ut,Uj,Ui,At.out.drewN 1,below_drewN Ip 1⟩
          case measure=>simp [intOf];omega
   ·by_cases gv:t.kind=2
    ·have AD:=aUl gv;rw [gv] at fL;clear p0 gv;have Kt:=aUl (λ V:World=>ajy V);have Mb:aj.kb 2=20:=rfl;have Mc:aj.BB 2=0:=rfl;rw [AD.out,Mb,Mc] at dS;have k8:=aUl dS;clear Mb Mc dS;have Ur:Hid (wr.alloc (.cells #[.int .i64 t.id, .int .i64 t.owner, .int .i64 2, .int .i64 t.spot.x, .int .i64 t.spot.y, .int .i64 t.dc, .int .i64 t.load] 66)=aP):=by rw [← KD.out,AD.out];rfl
     go_wp2_with fail
     rw [Ur.out];refine (Kt.out _).mono ?_;rintro e cE ⟨rfl,bz⟩;have wb:=cV.trans (bz.mono cV.size);have dV:=lA cE (.cells #[.int .i64 20, .int .i64 2, .int .i64 4, .int .i64 12] 207);have A':=aN.new cE [.int .i64 20, .int .i64 2, .int .i64 4, .int .i64 12] 207 (0,0);obtain ⟨w3,EV⟩:∃ w3,Hid (cE.alloc (.cells #[.int .i64 20, .int .i64 2, .int .i64 4, .int .i64 12] 207)=w3):=⟨_,aUl rfl⟩;rw [EV.out] at dV;have A':aN w3 cE.heap.size [.int .i64 20, .int .i64 2, .int .i64 4, .int .i64 12] 207 (0,0):=by rw [← EV.out];exact A'
     have Bl:w3.cell? ⟨cE.heap.size,0,none⟩=some (.int .i64 20):=A'.cell 0;have rY:=wb.trans (dV.mono wb.size);have EM:=aUl ((Cr.out.later bz).later dV);have Ku:=aUl (k7.out.later rY);have EL:=aUl (Hh.out.later rY);have FK:=mm.trans (rY.mono mm.size);have Kr:=aUl (abY.out.keep FK);obtain ⟨t0,t1,t2,t3,t4,t5,t6⟩:=bd.fB ((Cr.out.later bz));rw [AD.out] at t2;clear b3 c1 c2 c3 c4 c5 dQ eb eT;obtain ⟨b3,c1,c2,c3,c4,c5,dQ,eb,eT⟩:=aj.tH (Hh.out.later wb);rw [kh.out] at c3;rw [iy.out] at dQ;have agO:wr.heap.size<cE.heap.size:=by have:=bz.size;have:=Cr.out.lt;omega
     have agP:w.heap.size<cE.heap.size:=by have:=XN;omega
     go_wp2_with fail
     rw [EV.out];clear t0 t1 t2 t3 t4 t5 t6 b3 c1 c2 c3 c4 c5 dQ eb eT;obtain ⟨t0,t1,t2,t3,t4,t5,t6⟩:=bd.fB EM.out;obtain ⟨b3,c1,c2,c3,c4,c5,dQ,eb,eT⟩:=aj.tH EL.out;rw [kh.out] at c3;rw [iy.out] at dQ;rw [AD.out] at t2;clear bz A' dV wb;cases aI:cR t.id fD jV with
     | false =>
      have b0:Hid (W.kt=false):=aj.u0 (k:=k) (by rw [iy.out];exact bE) (by rw [k8.out,aI];simp);have Av:=aUl aI;clear aI;refine (pd Av.out _).mono ?_;rintro e w' ⟨rfl,rfl⟩;go_wp2_with fail
      go_ret;exact ⟨ib b0.out.symm,FK⟩
     | true =>
      have Av:=aUl aI;clear aI;refine (pd Av.out _).mono ?_;rintro e w' ⟨rfl,rfl⟩;go_wp2_with fail
      cases γ:cR t.owner 0 ((ks:Int) - 1) with
      | false =>
       have b0:Hid (W.kt=false):=aj.u0 (k:=k) (by rw [iy.out];exact bE) (by rw [k8.out,γ];simp);have dG:=aUl γ;clear γ;refine (pd dG.out _).mono ?_;rintro e w' ⟨rfl,rfl⟩;go_wp2_with fail
       go_ret;exact ⟨ib b0.out.symm,FK⟩
      | true =>
       have dG:=aUl γ;clear γ;refine (pd dG.out _).mono ?_;rintro e w' ⟨rfl,rfl⟩;go_wp2_with fail
       cases aa:W.field.ground t.spot with
       | false =>
        have b0:Hid (W.kt=false):=aj.u0 (k:=k) (by rw [iy.out];exact bE) (by rw [k8.out,aa];simp);have xb:=aUl aa;clear aa;have k6:=LA W.field t.spot e8 ft _ Kr.out jt.out;rw [xb.out] at k6;refine k6.mono ?_;rintro e tF ⟨rfl,dI⟩;have FG:=rY.trans (dI.mono rY.size);have xM:=mm.trans (FG.mono mm.size);have EN:=aUl (EM.out.later dI);have Kv:=aUl (Ku.out.later dI);have Kq:=aUl (EL.out.later dI);clear t0 t1 t2 t3 t4 t5 t6 b3 c1 c2 c3 c4 c5 dQ eb eT k6;obtain ⟨t0,t1,t2,t3,t4,t5,t6⟩:=bd.fB EN.out;have Bl:=cell_later dI Bl;go_wp2_with fail
        go_ret;exact ⟨ib b0.out.symm,xM⟩
       | true =>
        have xb:=aUl aa;clear aa;have k6:=LA W.field t.spot e8 ft _ Kr.out jt.out;rw [xb.out] at k6;refine k6.mono ?_;rintro e tF ⟨rfl,dI⟩;have FG:=rY.trans (dI.mono rY.size);have xM:=mm.trans (FG.mono mm.size);have EN:=aUl (EM.out.later dI);have Kv:=aUl (Ku.out.later dI);have Kq:=aUl (EL.out.later dI);clear t0 t1 t2 t3 t4 t5 t6 b3 c1 c2 c3 c4 c5 dQ eb eT k6;obtain ⟨t0,t1,t2,t3,t4,t5,t6⟩:=bd.fB EN.out;have Bl:=cell_later dI Bl;go_wp2_with fail
        cases av:cR t.dc 1 20 with
        | false =>
         have b0:Hid (W.kt=false):=aj.u0 (k:=k) (by rw [iy.out];exact bE) (by rw [k8.out,av];simp);have Aw:=aUl av;clear av;refine (pd Aw.out _).mono ?_;rintro e w' ⟨rfl,rfl⟩;go_wp2_with fail
         go_ret;exact ⟨ib b0.out.symm,xM⟩
        | true =>
         have Aw:=aUl av;clear av;refine (pd Aw.out _).mono ?_;rintro e w' ⟨rfl,rfl⟩;go_wp2_with fail
         cases aV:cR t.load 0 0 with
         | false =>
          have b0:Hid (W.kt=false):=aj.u0 (k:=k) (by rw [iy.out];exact bE) (by rw [k8.out,aV];simp);have Ax:=aUl aV;clear aV;refine (pd Ax.out _).mono ?_;rintro e w' ⟨rfl,rfl⟩;go_wp2_with fail
          go_ret;exact ⟨ib b0.out.symm,xM⟩
         | true =>
          have Ax:=aUl aV;clear aV;refine (pd Ax.out _).mono ?_;rintro e w' ⟨rfl,rfl⟩;go_wp2_with fail
          have Bi:t.spot.ok:=by
           obtain ⟨i1,i2,i3,i4,i5,i6⟩:=aE.idx jt.out (aE.j_ xb.out);obtain ⟨g1,g2,g3,g4,_,_⟩:=aE.km jt.out;exact ⟨bN.2 (by omega),bN.2 (by omega)⟩
          obtain ⟨v,AF⟩:∃ v,Hid ((dO.get l t.spot).getD 0=v):=⟨_,aUl rfl⟩;obtain ⟨st,eE,dF,yl,sv,pA⟩:=afG Kv.out Pp.out Pg.out t.spot Bi v AF.out;obtain ⟨Ds,a8,Dt,f1,Du,FR,Ms,Mt,Bd⟩:=pA;have ayX:0≤v∧v≤1:=by
           rw [← AF.out,Cs.out];split<;>simp
          have Uk:=aUl FR;have KC:=aUl Ms;have AB:=aUl Mt;have Ip:=(Bd (Nat.le_of_lt ahC)).1 xM;have At:=aUl (Kq.out.of_heap ((Bd (B:=0) (a:=tF) (aU6 _)).2 _ (by omega)));have yc:yl.cell? ⟨wr.heap.size,3,none⟩=some (.int .i64 t.spot.x):=(KC.out _ (by simp;omega)).trans t3;have Jl:yl.cell? ⟨wr.heap.size,4,none⟩=some (.int .i64 t.spot.y):=(KC.out _ (by simp;omega)).trans t4;have D3:sv.cell? ⟨wr.heap.size,0,none⟩=some (.int .i64 t.id):=(AB.out _ (by simp;omega)).trans t0;have yf:sv.cell? ⟨wr.heap.size,3,none⟩=some (.int .i64 t.spot.x):=(AB.out _ (by simp;omega)).trans t3;have aDv:sv.cell? ⟨wr.heap.size,4,none⟩=some (.int .i64 t.spot.y):=(AB.out _ (by simp;omega)).trans t4;have g1:=Ds 1;have g2:=a8 1;have g3:=Dt 1;have g4:=f1 1;have g5:=Du 1;clear FR Ms Mt Bd Ds a8 Dt f1 Du;simp only [ae6] at g1 g2 g3 g4 g5;cases r5:(W.jm k).contains t.spot with
          | true =>
           have nI:v=1:=by rw [← AF.out,Cs.out,r5];rfl
           subst nI;rw [show (1:Int)+1=2 from rfl] at g4 g5;have b0:Hid (W.kt=false):=aj.u0 (k:=k) (by rw [iy.out];exact bE) (by rw [k8.out,r5];simp);clear r5
           go_region
           go_wp2_with fail
           go_ret;exact ⟨ib b0.out.symm,below_drewN Ip 1⟩
          | false =>
           have nI:v=0:=by rw [← AF.out,Cs.out,r5];rfl
           subst nI;rw [show (0:Int)+1=1 from rfl] at g4 g5;have pq:Hid (∀ j,j<k+1→W.x8 j=true):=by
            intro j aA;by_cases hg:j<k
            ·exact h4.out j hg
            ·obtain rfl:j=k:=by omega
             rw [k8.out,Av.out,dG.out,xb.out,Aw.out,Ax.out,r5];rfl
           have Ui:Hid (∀ c,dO.get (dO.put l lB t.spot (0+1)) c=if (W.jm (k+1)).contains c=true then some 1 else none):=by
            intro c;rw [dO.A9,ab8.out,Cs.out];by_cases FM:c=t.spot
            ·simp [FM]
            ·rw [aUr FM];simp [FM]
           have Ut:Hid (∀ e∈dO.put l lB t.spot (0+1),e.1.ok):=dO.YT Pp.out Bi;have Uj:Hid (((dO.put l lB t.spot (0+1)).map (·.1)).Nodup):=dO.IM Pg.out _ _ _;clear r5 Bi
           go_region
           go_wp2_with fail
           go_roundw
           case rel=>exact ⟨k+1,_,_,by omega,by go_num,by rw [abZ.out],pq,Uk.out.drewN 1,Ut,Uj,Ui,At.out.drewN 1,below_drewN Ip 1⟩
           case measure=>simp [intOf];omega
    ·have XE:cR t.kind 1 2=false:=p4 (by omega);have b0:Hid (W.kt=false):=aj.u0 (k:=k) (by rw [iy.out];exact bE) (by rw [dS,XE];rfl);have Kt:=aUl (λ V:World=>ajz t.kind V XE);have ag3:(t.kind == 1)=false:=by simpa using p0
     clear dS XE p0 gv;go_wp2_with fail
     rw [KD.out];refine (Kt.out _).mono ?_;rintro e cE ⟨rfl,bz⟩;have wb:=cV.trans (bz.mono cV.size);obtain ⟨t0,t1,t2,t3,t4,t5,t6⟩:=bd.fB ((Cr.out.later bz));clear b3 c1 c2 c3 c4 c5 dQ eb eT;obtain ⟨b3,c1,c2,c3,c4,c5,dQ,eb,eT⟩:=aj.tH (Hh.out.later wb);have agO:wr.heap.size<cE.heap.size:=by have:=bz.size;have:=Cr.out.lt;omega
     have agP:w.heap.size<cE.heap.size:=by have:=XN;omega
     go_wp2_with fail
     go_ret;exact ⟨ib b0.out.symm,(mm.trans (wb.mono mm.size)).trans ((lA _ _).mono (by omega))⟩
  ·obtain rfl:k=eF:=by omega
   have dB:∀ j,j<W.ao.length→W.x8 j=true:=λ j aA=>h4.out j (by rw [iy.out] at aA;exact aA);have p3:W.kt=(cR W.next 1 1000000 && cR W.now 0 1000000):=by
    unfold aj.kt;rw [aU7.2 (λ j aA=>dB j (aU0.1 aA)),aXi]
   have AE:=aUl p3;clear dB p3 s6;cases γ:cR W.next 1 1000000 with
   | false =>
    have H1:=aUl γ;clear γ;go_wp2_with fail
    refine (pd H1.out _).mono ?_;rintro e w' ⟨rfl,rfl⟩;go_wp2_with fail
    go_ret;exact ⟨ib (by rw [AE.out,H1.out];rfl),mm⟩
   | true =>
    have zh:=λ V=>Ty W.now 0 1000000 V;have H1:=aUl γ;rw [H1.out,aXi] at AE;clear γ;generalize cR W.now 0 1000000=r2 at *
    go_wp2_with fail
    refine (pd H1.out _).mono ?_;rintro e w' ⟨rfl,rfl⟩;go_wp2_with fail
    refine (zh _).mono ?_;rintro e w' ⟨rfl,rfl⟩;go_wp2_with fail
    go_ret;exact ⟨ib AE.out.symm,mm⟩
end
end Go.Proofs.YtlikikpgmmkjbaaGreat
