import Derived.Test.YtlikikpgmmkjbaaGreatGra
import Derived.Test.YtlikikpgmmkjbaaGreatPtq
import Derived.Test.YtlikikpgmmkjbaaGreatCelK
set_option linter.unusedVariables false
set_option linter.unusedSimpArgs false
set_option maxRecDepth 100000
set_option maxHeartbeats 4000000
namespace Go.Proofs.YtlikikpgmmkjbaaGreat
section
open Go.RowKit
theorem players_any (a:Wd.At) (W:Wd) (w:World) (hW:Wd.Has w a W) (h0:W.field.chk=0) (h8:W.bases.length≤8):
    Calls Tryz.prog 89 #[.agg (Wd.cells a W).toArray] w λ e w'=>e= .returned (.bool W.players)∧Below w.heap.size w w':=by
  obtain ⟨aP,aB,aS,aM,aT,kP,kB,kS,kM,kT⟩:=a
  show Calls _ _ #[.agg #[.int .i64 W.field.wide, .int .i64 W.field.high, .slice aP W.field.places.length kP, .slice aB W.bases.length kB, .slice aS W.stocks.length kS, .slice aM W.mines.length kM, .slice aT W.troops.length kT, .int .i64 W.next, .int .i64 W.now]] _ _
  obtain ⟨nb,HNB⟩:∃ n,Hid (W.bases.length=n):=⟨_,Lib.hid rfl⟩
  obtain ⟨ns,HNS⟩:∃ n,Hid (W.stocks.length=n):=⟨_,Lib.hid rfl⟩
  have h8:nb≤8:=by rw [← HNB.out];exact h8
  have hb0:=below_alloc0 w (.cells (Wd.cells ⟨aP,aB,aS,aM,aT,kP,kB,kS,kM,kT⟩ W).toArray 28)
  have HA:=Lib.hid (Blk.new w (Wd.cells ⟨aP,aB,aS,aM,aT,kP,kB,kS,kM,kT⟩ W) 28 (0,0))
  have HH:=Lib.hid (hW.keep hb0)
  have H0:=Lib.hid h0
  obtain ⟨w0,HW0⟩:∃ w0,Hid (w.alloc (.cells (Wd.cells ⟨aP,aB,aS,aM,aT,kP,kB,kS,kM,kT⟩ W).toArray 28)=w0):=⟨_,Lib.hid rfl⟩
  rw [HW0.out] at hb0 HH
  have HA:Hid (Blk w0 w.heap.size (Wd.cells ⟨aP,aB,aS,aM,aT,kP,kB,kS,kM,kT⟩ W) 28 (0,0)):=by rw [← HW0.out];exact HA
  have HW1:Hid (w.alloc (.cells #[.int .i64 W.field.wide, .int .i64 W.field.high, .slice aP W.field.places.length kP, .slice aB nb kB, .slice aS ns kS, .slice aM W.mines.length kM, .slice aT W.troops.length kT, .int .i64 W.next, .int .i64 W.now] 28)=w0):=by rw [← HW0.out,← HNB.out,← HNS.out];rfl
  obtain ⟨c0,c1,c2,c3,c4,c5,c6,c7,c8⟩:=Wd.wblk HA.out
  rw [HNB.out] at c3
  rw [HNS.out] at c4
  clear hW h0
  by_cases hlen:ns=nb
  · subst hlen
    have HOK:Hid (∀ j,j<0→W.okBase j=true):=Lib.hid λ j hj=>absurd hj (by omega)
    go_enter Tryz.func89,Tryz.ntmps89
    rw [HNB.out,HNS.out]
    go_wp2_with fail
    rw [HW1.out]
    go_loopw [3,4,15] (λ _ _ iv wr=>∃ k:Nat,k≤ns∧iv= .int .i64 (k:Int)∧Hid (∀ j,j<k→W.okBase j=true)∧Below w0.heap.size w0 wr) (λ _ _ iv _=>ns - (intOf iv).toNat)
    case atStart=>exact ⟨0,Nat.zero_le _,rfl,HOK,Below.refl _ _⟩
    case round =>
      clear HOK c0 c1 c2 c3 c4 c5 c6 c7 c8
      obtain ⟨k,hk,rfl,HK,hb⟩:=hrel
      by_cases hlt:k<ns
      · obtain ⟨p,hp⟩:=get_of (l:=W.bases) (i:=k) (by rw [HNB.out];exact hlt)
        obtain ⟨st,hs⟩:=get_of (l:=W.stocks) (i:=k) (by rw [HNS.out];exact hlt)
        have hHr:=HH.out.keep hb
        have hAr:=HA.out.later hb
        have hHB:Cel.rep.SHas 16 wr aB kB W.bases:=hHr.B
        have hHP:repI.SHas 8 wr aP kP W.field.places:=hHr.P
        have hHS:repI.SHas 8 wr aS kS W.stocks:=hHr.S
        have hcap:(ns:Int)≤(kB:Int):=by have:=hHB.1;rw [HNB.out] at this;omega
        obtain ⟨b,o,rfl,hcell⟩:=Cel.at_ hHB (by rw [HNB.out];omega)
        obtain ⟨p0,p1⟩:=hcell k p hp
        obtain ⟨bs,os,rfl,hcells⟩:=repI_at hHS (by rw [HNS.out];omega)
        have s0:=hcells k st hs
        obtain ⟨c0,c1,c2,c3,c4,c5,c6,c7,c8⟩:=Wd.wblk hAr
        rw [HNB.out] at c3
        rw [HNS.out] at c4
        have hok:W.okBase k=(W.field.ground p && !(W.bases.take k).contains p && inB st 0 1000000):=by
          unfold Wd.okBase
          rw [List.getD_eq_getElem?_getD,hp,List.getD_eq_getElem?_getD,hs];rfl
        have hb1:=below_alloc0 wr (.cells #[.int .i64 p.x, .int .i64 p.y] 49)
        have hBC:=Blk.new wr p.cells 49 (0,0)
        obtain ⟨w1,HWA⟩:∃ w1,Hid (wr.alloc (.cells #[.int .i64 p.x, .int .i64 p.y] 49)=w1):=⟨_,Lib.hid rfl⟩
        rw [HWA.out] at hb1
        have hBC:Blk w1 wr.heap.size p.cells 49 (0,0):=by rw [← HWA.out];exact hBC
        obtain ⟨r0,r1⟩:=Cel.blk hBC
        have HG:=Lib.hid (λ (V:World) (h:Below w1.heap.size w1 V)=>ground_any W.field p aP kP V ((hHP.keep hb1).keep h) H0.out)
        have HC:=Lib.hid (λ (V:World) (h:Below w1.heap.size w1 V)=>has_cell p (some ⟨b,o,none⟩) kB (W.bases.take k) V (((hHB.take_ k).keep hb1).keep h))
        have hkl:(W.bases.take k).length=k:=by rw [List.length_take,HNB.out];omega
        rw [hkl] at HC
        have HI:=Lib.hid (λ (V:World)=>within_any st 0 1000000 V)
        have HOKE:=Lib.hid hok
        have hbr:=Below.refl w1.heap.size w1
        have hbB:=hb.trans (hb1.mono hb.size)
        have hki:(k:Int)<(ns:Int):=by omega
        have hk0:(0:Int)≤(k:Int):=by omega
        have hkc:(k:Int)≤(kB:Int):=by omega
        have hkn:k≤kB:=by omega
        clear hHr hAr hcell hcells hp hs hok hkl hHB hHP hHS
        go_wp2_with fail
        rw [HWA.out]
        have c0:=cell_later hb1 c0;have c1:=cell_later hb1 c1;have c2:=cell_later hb1 c2;have c3:=cell_later hb1 c3;have c4:=cell_later hb1 c4;have s0:=cell_later hb1 s0
        have HS:=Lib.hid (λ (wx:World) (h:Below w1.heap.size w1 wx)=>(⟨trivial,cell_later h c0,cell_later h c1,cell_later h c2,cell_later h c3,cell_later h c4,cell_later h r0,cell_later h r1,cell_later h s0⟩:True∧wx.cell? ⟨w.heap.size,0,none⟩=some (.int .i64 W.field.wide)∧wx.cell? ⟨w.heap.size,1,none⟩=some (.int .i64 W.field.high)∧wx.cell? ⟨w.heap.size,2,none⟩=some (.slice aP W.field.places.length kP)∧wx.cell? ⟨w.heap.size,3,none⟩=some (.slice (some ⟨b,o,none⟩) ns kB)∧wx.cell? ⟨w.heap.size,4,none⟩=some (.slice (some ⟨bs,os,none⟩) ns kS)∧wx.cell? ⟨wr.heap.size,0,none⟩=some (.int .i64 p.x)∧wx.cell? ⟨wr.heap.size,1,none⟩=some (.int .i64 p.y)∧wx.cell? ⟨bs,os+k,none⟩=some (.int .i64 st)))
        clear p0 p1 c5 c6 c7 c8 hBC
        cases h1:W.field.ground p with
        | false =>
          rw [h1] at HG
          have HF:Hid (W.players=false):=Wd.players_bad (k:=k) (by rw [HNB.out];exact hlt) (by rw [HOKE.out,h1];rfl)
          clear h1
          refine wp_region_below (by kernel_rfl) (by kernel_rfl) ?_
          repeat (first
            | go_big_quiet_skip
            | (go_big_quiet_want
               first
               | (go_big_quiet_op;go_big_quiet_on)
               | (apply Exists.intro
                  refine ⟨λ wq hq=> ?_, ?_⟩
                  · first
                    | (obtain ⟨_,qq0,qq1,qq2,qq3,qq4,qq5,qq6,qq7⟩:=HS.out wq hq
                       apply quiet_val2
                       · (go_simp;rfl)
                       · rfl)
                    | (apply quiet_call2
                       · (go_simp;rfl)
                       · rfl
                       · first
                         | (with_reducible refine (HG.out _ hq).mono ?_;rintro e w2 ⟨rfl,hb2⟩;exact ⟨rfl,below_on hq hb2⟩)
                         | (with_reducible refine (HC.out _ hq).mono ?_;rintro e w2 ⟨rfl,hb2⟩;exact ⟨rfl,below_on hq hb2⟩)
                         | (with_reducible refine (HI.out _).mono ?_;rintro e w2 ⟨rfl,rfl⟩;exact ⟨rfl,hq⟩)
                       )
                  go_big_quiet_on
                  simp only [Act.put,List.setIfInBounds_toArray,List.set_cons_zero,List.set_cons_succ])))
          refine wpQuiet_nil ?_
          intro wz hz
          go_wp2_with fail
          go_ret
          exact ⟨ret_bool HF.out.symm,hb0.trans ((hbB.trans (Below.mono hz hbB.size)).mono hb0.size)⟩
        | true =>
          rw [h1] at HG
          cases h2:(W.bases.take k).contains p with
          | true =>
            rw [h2] at HC
            have HF:Hid (W.players=false):=Wd.players_bad (k:=k) (by rw [HNB.out];exact hlt) (by rw [HOKE.out,h1,h2];rfl)
            clear h1 h2
            refine wp_region_below (by kernel_rfl) (by kernel_rfl) ?_
            repeat (first
              | go_big_quiet_skip
              | (go_big_quiet_want
                 first
                 | (go_big_quiet_op;go_big_quiet_on)
                 | (apply Exists.intro
                    refine ⟨λ wq hq=> ?_, ?_⟩
                    · first
                      | (obtain ⟨_,qq0,qq1,qq2,qq3,qq4,qq5,qq6,qq7⟩:=HS.out wq hq
                         apply quiet_val2
                         · (go_simp;rfl)
                         · rfl)
                      | (apply quiet_call2
                         · (go_simp;rfl)
                         · rfl
                         · first
                           | (with_reducible refine (HG.out _ hq).mono ?_;rintro e w2 ⟨rfl,hb2⟩;exact ⟨rfl,below_on hq hb2⟩)
                           | (with_reducible refine (HC.out _ hq).mono ?_;rintro e w2 ⟨rfl,hb2⟩;exact ⟨rfl,below_on hq hb2⟩)
                           | (with_reducible refine (HI.out _).mono ?_;rintro e w2 ⟨rfl,rfl⟩;exact ⟨rfl,hq⟩)
                         )
                    go_big_quiet_on
                    simp only [Act.put,List.setIfInBounds_toArray,List.set_cons_zero,List.set_cons_succ])))
            refine wpQuiet_nil ?_
            intro wz hz
            go_wp2_with fail
            go_ret
            exact ⟨ret_bool HF.out.symm,hb0.trans ((hbB.trans (Below.mono hz hbB.size)).mono hb0.size)⟩
          | false =>
            rw [h2] at HC
            cases h3:inB st 0 1000000 with
            | false =>
              rw [h3] at HI
              have HF:Hid (W.players=false):=Wd.players_bad (k:=k) (by rw [HNB.out];exact hlt) (by rw [HOKE.out,h3,Bool.and_false])
              clear h1 h2 h3
              refine wp_region_below (by kernel_rfl) (by kernel_rfl) ?_
              repeat (first
                | go_big_quiet_skip
                | (go_big_quiet_want
                   first
                   | (go_big_quiet_op;go_big_quiet_on)
                   | (apply Exists.intro
                      refine ⟨λ wq hq=> ?_, ?_⟩
                      · first
                        | (obtain ⟨_,qq0,qq1,qq2,qq3,qq4,qq5,qq6,qq7⟩:=HS.out wq hq
                           apply quiet_val2
                           · (go_simp;rfl)
                           · rfl)
                        | (apply quiet_call2
                           · (go_simp;rfl)
                           · rfl
                           · first
                             | (with_reducible refine (HG.out _ hq).mono ?_;rintro e w2 ⟨rfl,hb2⟩;exact ⟨rfl,below_on hq hb2⟩)
                             | (with_reducible refine (HC.out _ hq).mono ?_;rintro e w2 ⟨rfl,hb2⟩;exact ⟨rfl,below_on hq hb2⟩)
                             | (with_reducible refine (HI.out _).mono ?_;rintro e w2 ⟨rfl,rfl⟩;exact ⟨rfl,hq⟩)
                           )
                      go_big_quiet_on
                      simp only [Act.put,List.setIfInBounds_toArray,List.set_cons_zero,List.set_cons_succ])))
              refine wpQuiet_nil ?_
              intro wz hz
              go_wp2_with fail
              go_ret
              exact ⟨ret_bool HF.out.symm,hb0.trans ((hbB.trans (Below.mono hz hbB.size)).mono hb0.size)⟩
            | true =>
              rw [h3] at HI
              have HK2:Hid (∀ j,j<k+1→W.okBase j=true):=by
                intro j hj
                by_cases hjk:j<k
                · exact HK.out j hjk
                · obtain rfl:j=k:=by omega
                  rw [HOKE.out,h1,h2,h3];rfl
              clear h1 h2 h3
              refine wp_region_below (by kernel_rfl) (by kernel_rfl) ?_
              repeat (first
                | go_big_quiet_skip
                | (go_big_quiet_want
                   first
                   | (go_big_quiet_op;go_big_quiet_on)
                   | (apply Exists.intro
                      refine ⟨λ wq hq=> ?_, ?_⟩
                      · first
                        | (obtain ⟨_,qq0,qq1,qq2,qq3,qq4,qq5,qq6,qq7⟩:=HS.out wq hq
                           apply quiet_val2
                           · (go_simp;rfl)
                           · rfl)
                        | (apply quiet_call2
                           · (go_simp;rfl)
                           · rfl
                           · first
                             | (with_reducible refine (HG.out _ hq).mono ?_;rintro e w2 ⟨rfl,hb2⟩;exact ⟨rfl,below_on hq hb2⟩)
                             | (with_reducible refine (HC.out _ hq).mono ?_;rintro e w2 ⟨rfl,hb2⟩;exact ⟨rfl,below_on hq hb2⟩)
                             | (with_reducible refine (HI.out _).mono ?_;rintro e w2 ⟨rfl,rfl⟩;exact ⟨rfl,hq⟩)
                           )
                      go_big_quiet_on
                      simp only [Act.put,List.setIfInBounds_toArray,List.set_cons_zero,List.set_cons_succ])))
              refine wpQuiet_nil ?_
              intro wz hz
              go_wp2_with fail
              go_roundw
              case rel=>exact ⟨k+1,by omega,by go_num,HK2,hbB.trans (Below.mono hz hbB.size)⟩
              case measure=>simp [intOf];omega
      · have HT:Hid (W.players=true):=Wd.players_ok (by rw [HNS.out,HNB.out]) λ j hj=>HK.out j (by rw [HNB.out] at hj;omega)
        clear HK
        go_wp2_with fail
        go_ret
        exact ⟨ret_bool HT.out.symm,hb0.trans (hb.mono hb0.size)⟩
  · have HT:Hid (W.players=false):=Wd.players_no (by rw [HNS.out,HNB.out];exact hlen)
    have hd:((ns:Int) != (nb:Int))=true:=by simp;omega
    rw [HT.out]
    go_enter Tryz.func89,Tryz.ntmps89
    rw [HNB.out,HNS.out]
    go_wp2_with fail
    go_ret
    rw [HW1.out]
    exact ⟨rfl,hb0⟩
end
section
open Go.RowKit
theorem mines_any (a:Wd.At) (W:Wd) (w:World) (hW:Wd.Has w a W):
  Calls Tryz.prog 90 #[.agg (Wd.cells a W).toArray] w λ e w'=>e= .returned (.bool W.minesOk)∧Below w.heap.size w w':=by
 obtain ⟨aP,aB,aS,aM,aT,kP,kB,kS,kM,kT⟩:=a
 show Calls _ _ #[.agg #[.int .i64 W.field.wide, .int .i64 W.field.high, .slice aP W.field.places.length kP, .slice aB W.bases.length kB, .slice aS W.stocks.length kS, .slice aM W.mines.length kM, .slice aT W.troops.length kT, .int .i64 W.next, .int .i64 W.now]] _ _
 have hb0:=below_alloc0 w (.cells (Wd.cells ⟨aP,aB,aS,aM,aT,kP,kB,kS,kM,kT⟩ W).toArray 28)
 have HA:=Lib.hid (Blk.new w (Wd.cells ⟨aP,aB,aS,aM,aT,kP,kB,kS,kM,kT⟩ W) 28 (0,0))
 have HH:=Lib.hid (hW.keep hb0)
 obtain ⟨w0,HW0⟩:∃ w0,Hid (w.alloc (.cells (Wd.cells ⟨aP,aB,aS,aM,aT,kP,kB,kS,kM,kT⟩ W).toArray 28)=w0):=⟨_,Lib.hid rfl⟩
 rw [HW0.out] at hb0 HH
 have HA:Hid (Blk w0 w.heap.size (Wd.cells ⟨aP,aB,aS,aM,aT,kP,kB,kS,kM,kT⟩ W) 28 (0,0)):=by rw [← HW0.out];exact HA
 obtain ⟨nm,HNM⟩:∃ n,Hid (W.mines.length=n):=⟨_,Lib.hid rfl⟩
 obtain ⟨np,HNP⟩:∃ n,Hid (W.field.places.length=n):=⟨_,Lib.hid rfl⟩
 have hle:nm≤9223372036854775807:=by have:=hW.M.len_le;rw [HNM.out] at this;exact this
 have HW1:Hid (w.alloc (.cells #[.int .i64 W.field.wide, .int .i64 W.field.high, .slice aP np kP, .slice aB W.bases.length kB, .slice aS W.stocks.length kS, .slice aM nm kM, .slice aT W.troops.length kT, .int .i64 W.next, .int .i64 W.now] 28)=w0):=by rw [← HW0.out,← HNM.out,← HNP.out];rfl
 obtain ⟨c0,c1,c2,c3,c4,c5,c6,c7,c8⟩:=Wd.wblk HA.out
 rw [HNP.out] at c2
 rw [HNM.out] at c5
 clear hW
 by_cases hlen:nm=np
 ·subst hlen
  have HOK:Hid (∀ j,j<0→W.okMine j=true):=Lib.hid λ j hj=>absurd hj (by omega)
  go_enter Tryz.func90,Tryz.ntmps90
  rw [HNP.out,HNM.out]
  go_wp2_with fail
  rw [HW1.out]
  go_loopw [3,4,16] (λ _ _ iv wr=>∃ k:Nat,k≤nm∧iv= .int .i64 (k:Int)∧Hid (∀ j,j<k→W.okMine j=true)∧Hid (wr=w0)) (λ _ _ iv _=>nm - (intOf iv).toNat)
  case atStart=>exact ⟨0,Nat.zero_le _,rfl,HOK,rfl⟩
  case round =>
   clear HOK c0 c1 c2 c3 c4 c5 c6 c7 c8
   obtain ⟨k,hk,rfl,HK,HWR⟩:=hrel
   obtain ⟨c0,c1,c2,c3,c4,c5,c6,c7,c8⟩:=Wd.wblk (show Blk wr w.heap.size (Wd.cells ⟨aP,aB,aS,aM,aT,kP,kB,kS,kM,kT⟩ W) 28 (0,0) by rw [HWR.out];exact HA.out)
   rw [HNP.out] at c2
   rw [HNM.out] at c5
   have hbw:Below w.heap.size w wr:=by rw [HWR.out];exact hb0
   by_cases hlt:k<nm
   ·obtain ⟨p,hp⟩:=get_of (l:=W.field.places) (i:=k) (by rw [HNP.out];exact hlt)
    obtain ⟨m,hm⟩:=get_of (l:=W.mines) (i:=k) (by rw [HNM.out];exact hlt)
    have hHP:repI.SHas 8 wr aP kP W.field.places:=by rw [HWR.out];exact HH.out.P
    have hHM:repI.SHas 8 wr aM kM W.mines:=by rw [HWR.out];exact HH.out.M
    obtain ⟨b,o,rfl,hcell⟩:=repI_at hHP (by rw [HNP.out];omega)
    have p0:=hcell k p hp
    obtain ⟨bm,om,rfl,hcellm⟩:=repI_at hHM (by rw [HNM.out];omega)
    have m0:=hcellm k m hm
    have hok:W.okMine k=(inB m 0 1000000 && (decide (m≤0) || p == 3)):=by
     unfold Wd.okMine
     rw [List.getD_eq_getElem?_getD,hm,List.getD_eq_getElem?_getD,hp];rfl
    have HI:=Lib.hid (λ (V:World)=>within_any m 0 1000000 V)
    have HOKE:=Lib.hid hok
    have hki:(k:Int)<(nm:Int):=by omega
    have hk0:(0:Int)≤(k:Int):=by omega
    clear hHP hHM hcell hcellm hp hm hok
    cases h1:inB m 0 1000000 with
    | false =>
     rw [h1] at HI
     have HF:Hid (W.minesOk=false):=Wd.mines_bad (k:=k) (by rw [HNM.out];exact hlt) (by rw [HOKE.out,h1];rfl)
     clear h1
     go_wp2_with fail
     refine (HI.out _).mono ?_;rintro e w' ⟨rfl,rfl⟩
     go_wp2_with fail
     go_ret
     exact ⟨ret_bool HF.out.symm,hbw⟩
    | true =>
     rw [h1] at HI
     by_cases h2:m≤0
     ·have hd:decide (0<m)=false:=by simp;omega
      have HK2:Hid (∀ j,j<k+1→W.okMine j=true):=by
       intro j hj
       by_cases hjk:j<k
       ·exact HK.out j hjk
       ·obtain rfl:j=k:=by omega
        rw [HOKE.out,h1,decide_eq_true h2];rfl
      clear h1
      go_wp2_with fail
      refine (HI.out _).mono ?_;rintro e w' ⟨rfl,rfl⟩
      go_wp2_with fail
      go_roundw
      case rel=>exact ⟨k+1,by omega,by go_num,HK2,HWR⟩
      case measure=>simp [intOf];omega
     ·have hd:decide (0<m)=true:=by simp;omega
      by_cases h3:p=3
      ·subst h3
       have HK2:Hid (∀ j,j<k+1→W.okMine j=true):=by
        intro j hj
        by_cases hjk:j<k
        ·exact HK.out j hjk
        ·obtain rfl:j=k:=by omega
         rw [HOKE.out,h1];simp
       clear h1 h2
       go_wp2_with fail
       refine (HI.out _).mono ?_;rintro e w' ⟨rfl,rfl⟩
       go_wp2_with fail
       go_roundw
       case rel=>exact ⟨k+1,by omega,by go_num,HK2,HWR⟩
       case measure=>simp [intOf];omega
      ·have HF:Hid (W.minesOk=false):=Wd.mines_bad (k:=k) (by rw [HNM.out];exact hlt) (by rw [HOKE.out,decide_eq_false h2,beq_false_of_ne h3];simp)
       have hd2:(p == 3)=false:=by simpa using h3
       clear h1 h2 h3
       go_wp2_with fail
       refine (HI.out _).mono ?_;rintro e w' ⟨rfl,rfl⟩
       go_wp2_with fail
       go_ret
       exact ⟨ret_bool HF.out.symm,hbw⟩
   ·have HT:Hid (W.minesOk=true):=Wd.mines_ok (by rw [HNM.out,HNP.out]) λ j hj=>HK.out j (by rw [HNM.out] at hj;omega)
    clear HK
    go_wp2_with fail
    go_ret
    exact ⟨ret_bool HT.out.symm,hbw⟩
 ·have HT:Hid (W.minesOk=false):=Wd.mines_no (by rw [HNM.out,HNP.out];exact hlen)
  have hd:((nm:Int) != (np:Int))=true:=by simp;omega
  rw [HT.out]
  go_enter Tryz.func90,Tryz.ntmps90
  rw [HNP.out,HNM.out]
  go_wp2_with fail
  go_ret
  rw [HW1.out]
  exact ⟨rfl,hb0⟩
end
section
open Go.RowKit
theorem within_v {n lo hi:Int} {b:Bool} (h:inB n lo hi=b) (w:World):Calls Tryz.prog 127 #[.int .i64 n, .int .i64 lo, .int .i64 hi] w λ e w'=>e= .returned (.bool b)∧w=w':=by
 have:=within_any n lo hi w
 rw [h] at this
 exact this
theorem MapIs.drewN {κ:Type} {key:κ→Value} {w:World} {b:Nat} {l:List (κ×Int×Nat)} {clock:Nat} (h:MapIs key w b l clock) (n:Nat):MapIs key (w.drewN n) b l clock:=⟨h.blk,h.born,h.stamps⟩
theorem drew1 (w:World):w.drewN 1=w.drew:=rfl
theorem Blk.of_heap {w w':World} {g:Nat} {cur:List Value} {e:TypeId} {fr:Nat×Nat} (h:Blk w g cur e fr) (hh:w'.heap[g]? =w.heap[g]?):Blk w' g cur e fr:=hh.trans h
theorem entryFacts {w:World} {b:Nat} {l:List (Cel×Int×Nat)} {clk:Nat} (h:MapIs Cel.key w b l clk) (hw:∀ e∈l,e.1.ok) (hn:(l.map (·.1)).Nodup) (x:Cel) (hx:x.ok) (v:Int) (hv:(MapIs.get l x).getD 0=v):
  ∃ (st:Nat) (l1:List (Cel×Int×Nat)) (c1:Nat) (wE wS:World),
   (∀ n,(Instr.lookup 205 (.map (some b)) (.agg #[.int .i64 x.x, .int .i64 x.y]) false).run Tryz.prog (w.drewN n)= .ok (.int .i64 v) (w.drewN n))∧
   (∀ n,(Instr.mapEntry 205 (.map (some b)) (.agg #[.int .i64 x.x, .int .i64 x.y])).run Tryz.prog (w.drewN n)= .ok (.tuple #[.int .i64 v, .int .i64 (st:Int)]) (wE.drewN n))∧
   (∀ n,(Instr.lookup 205 (.map (some b)) (.agg #[.int .i64 x.x, .int .i64 x.y]) false).run Tryz.prog (wE.drewN n)= .ok (.int .i64 v) (wE.drewN n))∧
   (∀ n,(Instr.entryStore 205 (.map (some b)) (.int .i64 (st:Int)) (.int .i64 (v+1))).run Tryz.prog (wE.drewN n)= .ok () (wS.drewN n))∧
   (∀ n,(Instr.lookup 205 (.map (some b)) (.agg #[.int .i64 x.x, .int .i64 x.y]) false).run Tryz.prog (wS.drewN n)= .ok (.int .i64 (v+1)) (wS.drewN n))∧
   MapIs Cel.key wS b (MapIs.put l clk x (v+1)) (MapIs.tick l clk x)∧
   (∀ p:Addr,p.block≠b→wE.cell? p=w.cell? p)∧(∀ p:Addr,p.block≠b→wS.cell? p=w.cell? p)∧
   ∀ {B:Nat} {a:World},B≤b→(Below B a w→Below B a wS)∧(∀ g,g≠b→wS.heap[g]? =w.heap[g]?):=by
 obtain ⟨st,l1,k1,e1,e2,e3,e4,e5,e6⟩:=MapIs.entry Cel.key_ok Tryz.underlying205 Tryz.zeroValue3 h hw hn x hx
 have hlook:=λ n=>(MapIs.lookup (w:=w.drewN n) Cel.key_ok Tryz.underlying205 (Tryz.zeroValue3 _) (h.drewN n) hw hn x hx).1
 have hlook2:=λ n=>(MapIs.lookup (w:=(setMap w b (l1.map (entOf Cel.key)).toArray k1).drewN n) Cel.key_ok Tryz.underlying205 (Tryz.zeroValue3 _) (e2.drewN n) e3 e4 x hx).1
 have hp:=(e6 (v+1) 0).2
 have hlook3:=λ n=>(MapIs.lookup (w:=(setMap w b ((MapIs.put l clk x (v+1)).map (entOf Cel.key)).toArray (MapIs.tick l clk x)).drewN n) Cel.key_ok Tryz.underlying205 (Tryz.zeroValue3 _) (hp.drewN n) (MapIs.mem_put hw hx) (MapIs.keys_put hn clk x (v+1)) x hx).1
 simp only [e5,hv,Option.getD_some] at hlook hlook2 e1
 simp only [MapIs.get_put,if_pos,Option.getD_some] at hlook3
 exact ⟨st,l1,k1,_,_,hlook,e1,hlook2,λ n=>(e6 (v+1) n).1,hlook3,hp,λ p hp=>World.cell?_of_block (setMap_other hp),λ p hp=>World.cell?_of_block (setMap_other hp),
  fun {B a} hB=>⟨λ hb=>setMap_below hb hB,λ g hg=>setMap_other hg⟩⟩
theorem troops_any (a:Wd.At) (W:Wd) (w:World) (hW:Wd.Has w a W) (h0:W.field.chk=0) (h8:W.bases.length≤8) (h100:W.troops.length≤100):
  Calls Tryz.prog 91 #[.agg (Wd.cells a W).toArray] w λ e w'=>e= .returned (.bool W.troopsOk)∧Below w.heap.size w w':=by
 obtain ⟨aP,aB,aS,aM,aT,kP,kB,kS,kM,kT⟩:=a
 show Calls _ _ #[.agg #[.int .i64 W.field.wide, .int .i64 W.field.high, .slice aP W.field.places.length kP, .slice aB W.bases.length kB, .slice aS W.stocks.length kS, .slice aM W.mines.length kM, .slice aT W.troops.length kT, .int .i64 W.next, .int .i64 W.now]] _ _
 have hb0:=below_alloc0 w (.cells (Wd.cells ⟨aP,aB,aS,aM,aT,kP,kB,kS,kM,kT⟩ W).toArray 28)
 have HA:=Lib.hid (Blk.new w (Wd.cells ⟨aP,aB,aS,aM,aT,kP,kB,kS,kM,kT⟩ W) 28 (0,0))
 have HH:=Lib.hid (hW.keep hb0)
 obtain ⟨w0,HW0⟩:∃ w0,Hid (w.alloc (.cells (Wd.cells ⟨aP,aB,aS,aM,aT,kP,kB,kS,kM,kT⟩ W).toArray 28)=w0):=⟨_,Lib.hid rfl⟩
 rw [HW0.out] at hb0 HH
 have HA:Hid (Blk w0 w.heap.size (Wd.cells ⟨aP,aB,aS,aM,aT,kP,kB,kS,kM,kT⟩ W) 28 (0,0)):=by rw [← HW0.out];exact HA
 obtain ⟨nt,HNT⟩:∃ n,Hid (W.troops.length=n):=⟨_,Lib.hid rfl⟩
 obtain ⟨nb,HNB⟩:∃ n,Hid (W.bases.length=n):=⟨_,Lib.hid rfl⟩
 have h8:nb≤8:=by rw [← HNB.out];exact h8
 have h100:nt≤100:=by rw [← HNT.out];exact h100
 have H0:=Lib.hid h0
 have HW:=Lib.hid hW
 obtain ⟨nx,hnx⟩:∃ nx,wrap64 (W.next - 1)=nx:=⟨_,rfl⟩
 have HNX:=Lib.hid hnx
 have HW1:Hid (w.alloc (.cells #[.int .i64 W.field.wide, .int .i64 W.field.high, .slice aP W.field.places.length kP, .slice aB nb kB, .slice aS W.stocks.length kS, .slice aM W.mines.length kM, .slice aT nt kT, .int .i64 W.next, .int .i64 W.now] 28)=w0):=by rw [← HW0.out,← HNB.out,← HNT.out];rfl
 obtain ⟨c0,c1,c2,c3,c4,c5,c6,c7,c8⟩:=Wd.wblk HA.out
 rw [HNB.out] at c3
 rw [HNT.out] at c6
 clear hW h0
 have hmm:=@run_makeMap Tryz.prog
 have hmade:=MapIs.made (key:=Cel.key) w0
 have hbm:=below_alloc0 w0 (.map #[] 0)
 obtain ⟨wm,HWM⟩:∃ wm,Hid (w0.alloc (.map #[] 0)=wm):=⟨_,Lib.hid rfl⟩
 rw [HWM.out] at hmade hbm
 have hsz:w0.heap.size=w.heap.size+1:=by rw [← HW0.out];simp
 rw [hsz] at hmade
 have HMADE:=Lib.hid hmade
 have HOK:Hid (∀ j,j<0→W.okTroop j=true):=Lib.hid λ j hj=>absurd hj (by omega)
 clear hmade
 go_enter Tryz.func91,Tryz.ntmps91
 rw [HNB.out,HNT.out]
 go_wp2_with fail
 rw [HW1.out,HWM.out]
 have HHP:Hid (repI.SHas 8 w aP kP W.field.places):=Lib.hid HW.out.P
 have HHT:Hid (Trp.rep.SHas 56 w aT kT W.troops):=Lib.hid HW.out.T
 have hle100:=h100
 have hA0:=HA.out.later hbm
 have hb0m:=hb0.trans (hbm.mono hb0.size)
 clear c0 c1 c2 c3 c4 c5 c6 c7 c8 hmm
 obtain ⟨mb,HMB⟩:∃ mb,Hid (w.heap.size+1=mb):=⟨_,Lib.hid rfl⟩
 rw [HMB.out]
 rw [HMB.out] at HMADE
 go_loopw [3,6,7,8,9,14] (λ lv _ _ _ _ iv wr=>∃ (k:Nat) (l:List (Cel×Int×Nat)) (clk:Nat),k≤nt∧iv= .int .i64 (k:Int)∧lv= .int .i64 (W.lastId k)∧Hid (∀ j,j<k→W.okTroop j=true)∧Hid (MapIs Cel.key wr mb l clk)∧Hid (∀ e∈l,e.1.ok)∧Hid ((l.map (·.1)).Nodup)∧Hid (∀ c,MapIs.get l c=if (W.spots k).contains c=true then some 1 else none)∧Hid (Blk wr w.heap.size (Wd.cells ⟨aP,aB,aS,aM,aT,kP,kB,kS,kM,kT⟩ W) 28 (0,0))∧Below w.heap.size w wr) (λ _ _ _ _ _ iv _=>nt - (intOf iv).toNat)
 case atStart=>exact ⟨0, [],0,Nat.zero_le _,rfl,rfl,HOK,HMADE,(λ e he=>by simp at he),List.nodup_nil,(λ c=>by simp [MapIs.get,Wd.spots]),hA0,hb0m⟩
 case round =>
  clear HOK HMADE hA0 hb0m
  obtain ⟨k,l,clk,hk,rfl,rfl,HK,HM,HWF,HKN,HGET,HAR,hbw⟩:=hrel
  obtain ⟨c0,c1,c2,c3,c4,c5,c6,c7,c8⟩:=Wd.wblk HAR.out
  rw [HNB.out] at c3
  rw [HNT.out] at c6
  by_cases hlt:k<nt
  ·obtain ⟨t,ht⟩:=get_of (l:=W.troops) (i:=k) (by rw [HNT.out];exact hlt)
   have hHT:=HHT.out.keep hbw
   obtain ⟨b,o,rfl,hcell⟩:=Trp.at_ hHT (by rw [HNT.out];omega)
   obtain ⟨p0,p1,p2,p3,p4,p5,p6⟩:=hcell k t ht
   obtain ⟨lx,hlx⟩:∃ lx,wrap64 (W.lastId k+1)=lx:=⟨_,rfl⟩
   have hok:W.okTroop k=(W.okOne lx nx t && !(W.spots k).contains t.spot):=by
    unfold Wd.okTroop
    rw [List.getD_eq_getElem?_getD,ht,hlx,HNX.out];rfl
   unfold Wd.okOne at hok
   rw [HNB.out] at hok
   have hnext:W.lastId (k+1)=t.id:=by
    unfold Wd.lastId
    rw [if_neg (by omega),List.getD_eq_getElem?_getD,Nat.add_sub_cancel,ht];rfl
   have hspots:W.spots (k+1)=W.spots k++ [t.spot]:=by
    unfold Wd.spots
    rw [List.take_succ_eq_append_getElem (by rw [HNT.out];exact hlt),List.map_append]
    have:W.troops[k]'(by rw [HNT.out];exact hlt)=t:=by
     rw [List.getElem?_eq_getElem (by rw [HNT.out];exact hlt)] at ht
     exact Option.some.inj ht
    rw [this];rfl
   have HNEXT:=Lib.hid hnext
   have HSPOTS:=Lib.hid hspots
   have hb1:=below_alloc0 wr (.cells #[.int .i64 t.id, .int .i64 t.owner, .int .i64 t.kind, .int .i64 t.spot.x, .int .i64 t.spot.y, .int .i64 t.life, .int .i64 t.load] 66)
   have hBT:=Blk.new wr t.cells 66 (0,0)
   obtain ⟨w1,HW1B⟩:∃ w1,Hid (wr.alloc (.cells #[.int .i64 t.id, .int .i64 t.owner, .int .i64 t.kind, .int .i64 t.spot.x, .int .i64 t.spot.y, .int .i64 t.life, .int .i64 t.load] 66)=w1):=⟨_,Lib.hid rfl⟩
   rw [HW1B.out] at hb1
   have HBT:Hid (Blk w1 wr.heap.size t.cells 66 (0,0)):=by rw [← HW1B.out];exact hBT
   have hmbr:mb<wr.heap.size:=HM.out.lt
   have hmbw:w.heap.size<mb:=by have:=HMB.out;omega
   have hki:(k:Int)<(nt:Int):=by omega
   have hk0:(0:Int)≤(k:Int):=by omega
   have hnb1:(0:Int)≤(nb:Int)∧(nb:Int)≤8:=by omega
   clear hHT hcell ht hnext hspots hBT hnx
   have hnx:=HNX.out
   by_cases hk1:t.kind=1
   ·have HTK:=Lib.hid hk1
    rw [hk1] at p2
    clear hk1
    have HKD:=Lib.hid (λ V:World=>kind_1 V)
    have hlife:Wd.lifeOf 1=10:=rfl
    have hmost:Wd.mostOf 1=5:=rfl
    rw [HTK.out,hlife,hmost] at hok
    have HOKE:=Lib.hid hok
    clear hlife hmost hok
    have HW1C:Hid (wr.alloc (.cells #[.int .i64 t.id, .int .i64 t.owner, .int .i64 1, .int .i64 t.spot.x, .int .i64 t.spot.y, .int .i64 t.life, .int .i64 t.load] 66)=w1):=by rw [← HW1B.out,HTK.out];rfl
    go_wp2_with fail
    rw [HW1C.out]
    refine (HKD.out _).mono ?_;rintro e w2 ⟨rfl,hb2⟩
    have hb12:=hb1.trans (hb2.mono hb1.size)
    have hb3:=below_alloc0 w2 (.cells #[.int .i64 10, .int .i64 1, .int .i64 1, .int .i64 5] 207)
    have hKB:=Blk.new w2 [.int .i64 10, .int .i64 1, .int .i64 1, .int .i64 5] 207 (0,0)
    obtain ⟨w3,HW3⟩:∃ w3,Hid (w2.alloc (.cells #[.int .i64 10, .int .i64 1, .int .i64 1, .int .i64 5] 207)=w3):=⟨_,Lib.hid rfl⟩
    rw [HW3.out] at hb3
    have hKB:Blk w3 w2.heap.size [.int .i64 10, .int .i64 1, .int .i64 1, .int .i64 5] 207 (0,0):=by rw [← HW3.out];exact hKB
    have kb0:w3.cell? ⟨w2.heap.size,0,none⟩=some (.int .i64 10):=hKB.cell 0
    have hb13:=hb12.trans (hb3.mono hb12.size)
    have HBT3:=Lib.hid ((HBT.out.later hb2).later hb3)
    have HM3:=Lib.hid (HM.out.later hb13)
    have HA3:=Lib.hid (HAR.out.later hb13)
    have hbw3:=hbw.trans (hb13.mono hbw.size)
    have HHP3:=Lib.hid (HHP.out.keep hbw3)
    obtain ⟨t0,t1,t2,t3,t4,t5,t6⟩:=Trp.blk ((HBT.out.later hb2))
    rw [HTK.out] at t2
    clear c0 c1 c2 c3 c4 c5 c6 c7 c8
    obtain ⟨c0,c1,c2,c3,c4,c5,c6,c7,c8⟩:=Wd.wblk (HAR.out.later hb12)
    rw [HNB.out] at c3
    rw [HNT.out] at c6
    have hbsz:wr.heap.size<w2.heap.size:=by have:=hb2.size;have:=HBT.out.lt;omega
    have hbsz2:w.heap.size<w2.heap.size:=by have:=hmbr;omega
    go_wp2_with fail
    rw [HW3.out]
    clear t0 t1 t2 t3 t4 t5 t6 c0 c1 c2 c3 c4 c5 c6 c7 c8
    obtain ⟨t0,t1,t2,t3,t4,t5,t6⟩:=Trp.blk HBT3.out
    obtain ⟨c0,c1,c2,c3,c4,c5,c6,c7,c8⟩:=Wd.wblk HA3.out
    rw [HNB.out] at c3
    rw [HNT.out] at c6
    rw [HTK.out] at t2
    clear hb2 hKB hb3 hb12
    cases h0:inB t.id lx nx with
    | false =>
     have HF:Hid (W.troopsOk=false):=Wd.troops_bad (k:=k) (by rw [HNT.out];exact hlt) (by rw [HOKE.out,h0];simp)
     have HC0:=Lib.hid h0
     clear h0
     refine (within_v HC0.out _).mono ?_;rintro e w' ⟨rfl,rfl⟩
     go_wp2_with fail
     go_ret
     exact ⟨ret_bool HF.out.symm,hbw3⟩
    | true =>
     have HC0:=Lib.hid h0
     clear h0
     refine (within_v HC0.out _).mono ?_;rintro e w' ⟨rfl,rfl⟩
     go_wp2_with fail
     cases h1:inB t.owner 0 ((nb:Int) - 1) with
     | false =>
      have HF:Hid (W.troopsOk=false):=Wd.troops_bad (k:=k) (by rw [HNT.out];exact hlt) (by rw [HOKE.out,h1];simp)
      have HC1:=Lib.hid h1
      clear h1
      refine (within_v HC1.out _).mono ?_;rintro e w' ⟨rfl,rfl⟩
      go_wp2_with fail
      go_ret
      exact ⟨ret_bool HF.out.symm,hbw3⟩
     | true =>
      have HC1:=Lib.hid h1
      clear h1
      refine (within_v HC1.out _).mono ?_;rintro e w' ⟨rfl,rfl⟩
      go_wp2_with fail
      cases h2:W.field.ground t.spot with
      | false =>
       have HF:Hid (W.troopsOk=false):=Wd.troops_bad (k:=k) (by rw [HNT.out];exact hlt) (by rw [HOKE.out,h2];simp)
       have HC2:=Lib.hid h2
       clear h2
       have HG:=ground_any W.field t.spot aP kP _ HHP3.out H0.out
       rw [HC2.out] at HG
       refine HG.mono ?_;rintro e w4 ⟨rfl,hb4⟩
       have hb14:=hb13.trans (hb4.mono hb13.size)
       have hbw4:=hbw.trans (hb14.mono hbw.size)
       have HBT4:=Lib.hid (HBT3.out.later hb4)
       have HM4:=Lib.hid (HM3.out.later hb4)
       have HA4:=Lib.hid (HA3.out.later hb4)
       clear t0 t1 t2 t3 t4 t5 t6 c0 c1 c2 c3 c4 c5 c6 c7 c8 HG
       obtain ⟨t0,t1,t2,t3,t4,t5,t6⟩:=Trp.blk HBT4.out
       have kb0:=cell_later hb4 kb0
       go_wp2_with fail
       go_ret
       exact ⟨ret_bool HF.out.symm,hbw4⟩
      | true =>
       have HC2:=Lib.hid h2
       clear h2
       have HG:=ground_any W.field t.spot aP kP _ HHP3.out H0.out
       rw [HC2.out] at HG
       refine HG.mono ?_;rintro e w4 ⟨rfl,hb4⟩
       have hb14:=hb13.trans (hb4.mono hb13.size)
       have hbw4:=hbw.trans (hb14.mono hbw.size)
       have HBT4:=Lib.hid (HBT3.out.later hb4)
       have HM4:=Lib.hid (HM3.out.later hb4)
       have HA4:=Lib.hid (HA3.out.later hb4)
       clear t0 t1 t2 t3 t4 t5 t6 c0 c1 c2 c3 c4 c5 c6 c7 c8 HG
       obtain ⟨t0,t1,t2,t3,t4,t5,t6⟩:=Trp.blk HBT4.out
       have kb0:=cell_later hb4 kb0
       go_wp2_with fail
       cases h3:inB t.life 1 10 with
       | false =>
        have HF:Hid (W.troopsOk=false):=Wd.troops_bad (k:=k) (by rw [HNT.out];exact hlt) (by rw [HOKE.out,h3];simp)
        have HC3:=Lib.hid h3
        clear h3
        refine (within_v HC3.out _).mono ?_;rintro e w' ⟨rfl,rfl⟩
        go_wp2_with fail
        go_ret
        exact ⟨ret_bool HF.out.symm,hbw4⟩
       | true =>
        have HC3:=Lib.hid h3
        clear h3
        refine (within_v HC3.out _).mono ?_;rintro e w' ⟨rfl,rfl⟩
        go_wp2_with fail
        cases h4:inB t.load 0 5 with
        | false =>
         have HF:Hid (W.troopsOk=false):=Wd.troops_bad (k:=k) (by rw [HNT.out];exact hlt) (by rw [HOKE.out,h4];simp)
         have HC4:=Lib.hid h4
         clear h4
         refine (within_v HC4.out _).mono ?_;rintro e w' ⟨rfl,rfl⟩
         go_wp2_with fail
         go_ret
         exact ⟨ret_bool HF.out.symm,hbw4⟩
        | true =>
         have HC4:=Lib.hid h4
         clear h4
         refine (within_v HC4.out _).mono ?_;rintro e w' ⟨rfl,rfl⟩
         go_wp2_with fail
         have hspot:t.spot.ok:=by
          obtain ⟨i1,i2,i3,i4,i5,i6⟩:=Fld.idx H0.out (Fld.ground_in HC2.out)
          obtain ⟨g1,g2,g3,g4,_,_⟩:=Fld.good H0.out
          exact ⟨okI_iff.2 (by omega),okI_iff.2 (by omega)⟩
         obtain ⟨v,HV⟩:∃ v,Hid ((MapIs.get l t.spot).getD 0=v):=⟨_,Lib.hid rfl⟩
         obtain ⟨st,l1,k1,wE,wS,HX⟩:=entryFacts HM4.out HWF.out HKN.out t.spot hspot v HV.out
         obtain ⟨hlook,e1,hlook2,f1,hlook3,hm5,hsame1,hsame2,hbE⟩:=HX
         have hv0:0≤v∧v≤1:=by
          rw [← HV.out,HGET.out]
          split<;>simp
         have HM5:=Lib.hid hm5
         have HS1:=Lib.hid hsame1
         have HS2:=Lib.hid hsame2
         have hbS:=(hbE (Nat.le_of_lt hmbw)).1 hbw4
         have HA5:=Lib.hid (HA4.out.of_heap ((hbE (B:=0) (a:=w4) (Nat.zero_le _)).2 _ (by omega)))
         have q3:wE.cell? ⟨wr.heap.size,3,none⟩=some (.int .i64 t.spot.x):=(HS1.out _ (by simp;omega)).trans t3
         have q4:wE.cell? ⟨wr.heap.size,4,none⟩=some (.int .i64 t.spot.y):=(HS1.out _ (by simp;omega)).trans t4
         have r0:wS.cell? ⟨wr.heap.size,0,none⟩=some (.int .i64 t.id):=(HS2.out _ (by simp;omega)).trans t0
         have r3:wS.cell? ⟨wr.heap.size,3,none⟩=some (.int .i64 t.spot.x):=(HS2.out _ (by simp;omega)).trans t3
         have r4:wS.cell? ⟨wr.heap.size,4,none⟩=some (.int .i64 t.spot.y):=(HS2.out _ (by simp;omega)).trans t4
         have g1:=hlook 1;have g2:=e1 1;have g3:=hlook2 1;have g4:=f1 1;have g5:=hlook3 1
         clear hm5 hsame1 hsame2 hbE hlook e1 hlook2 f1 hlook3
         simp only [drew1] at g1 g2 g3 g4 g5
         cases hcon:(W.spots k).contains t.spot with
         | true =>
          have hv1:v=1:=by rw [← HV.out,HGET.out,hcon];rfl
          subst hv1
          rw [show (1:Int)+1=2 from rfl] at g4 g5
          have HF:Hid (W.troopsOk=false):=Wd.troops_bad (k:=k) (by rw [HNT.out];exact hlt) (by rw [HOKE.out,hcon];simp)
          clear hcon
          go_region
          go_wp2_with fail
          go_ret
          exact ⟨ret_bool HF.out.symm,below_drewN hbS 1⟩
         | false =>
          have hv1:v=0:=by rw [← HV.out,HGET.out,hcon];rfl
          subst hv1
          rw [show (0:Int)+1=1 from rfl] at g4 g5
          have HK2:Hid (∀ j,j<k+1→W.okTroop j=true):=by
           intro j hj
           by_cases hjk:j<k
           ·exact HK.out j hjk
           ·obtain rfl:j=k:=by omega
            rw [HOKE.out,HC0.out,HC1.out,HC2.out,HC3.out,HC4.out,hcon];rfl
          have HG2:Hid (∀ c,MapIs.get (MapIs.put l clk t.spot (0+1)) c=if (W.spots (k+1)).contains c=true then some 1 else none):=by
           intro c
           rw [MapIs.get_put,HSPOTS.out,HGET.out]
           by_cases hct:c=t.spot
           ·simp [hct]
           ·rw [if_neg hct]
            simp [hct]
          have HWF2:Hid (∀ e∈MapIs.put l clk t.spot (0+1),e.1.ok):=MapIs.mem_put HWF.out hspot
          have HKN2:Hid (((MapIs.put l clk t.spot (0+1)).map (·.1)).Nodup):=MapIs.keys_put HKN.out _ _ _
          clear hcon hspot
          go_region
          go_wp2_with fail
          go_roundw
          case rel=>exact ⟨k+1,_,_,by omega,by go_num,by rw [HNEXT.out],HK2,HM5.out.drewN 1,HWF2,HKN2,HG2,HA5.out.drewN 1,below_drewN hbS 1⟩
          case measure=>simp [intOf];omega
   ·by_cases hk2:t.kind=2
    ·have HTK:=Lib.hid hk2
     rw [hk2] at p2
     clear hk1 hk2
     have HKD:=Lib.hid (λ V:World=>kind_2 V)
     have hlife:Wd.lifeOf 2=20:=rfl
     have hmost:Wd.mostOf 2=0:=rfl
     rw [HTK.out,hlife,hmost] at hok
     have HOKE:=Lib.hid hok
     clear hlife hmost hok
     have HW1C:Hid (wr.alloc (.cells #[.int .i64 t.id, .int .i64 t.owner, .int .i64 2, .int .i64 t.spot.x, .int .i64 t.spot.y, .int .i64 t.life, .int .i64 t.load] 66)=w1):=by rw [← HW1B.out,HTK.out];rfl
     go_wp2_with fail
     rw [HW1C.out]
     refine (HKD.out _).mono ?_;rintro e w2 ⟨rfl,hb2⟩
     have hb12:=hb1.trans (hb2.mono hb1.size)
     have hb3:=below_alloc0 w2 (.cells #[.int .i64 20, .int .i64 2, .int .i64 4, .int .i64 12] 207)
     have hKB:=Blk.new w2 [.int .i64 20, .int .i64 2, .int .i64 4, .int .i64 12] 207 (0,0)
     obtain ⟨w3,HW3⟩:∃ w3,Hid (w2.alloc (.cells #[.int .i64 20, .int .i64 2, .int .i64 4, .int .i64 12] 207)=w3):=⟨_,Lib.hid rfl⟩
     rw [HW3.out] at hb3
     have hKB:Blk w3 w2.heap.size [.int .i64 20, .int .i64 2, .int .i64 4, .int .i64 12] 207 (0,0):=by rw [← HW3.out];exact hKB
     have kb0:w3.cell? ⟨w2.heap.size,0,none⟩=some (.int .i64 20):=hKB.cell 0
     have hb13:=hb12.trans (hb3.mono hb12.size)
     have HBT3:=Lib.hid ((HBT.out.later hb2).later hb3)
     have HM3:=Lib.hid (HM.out.later hb13)
     have HA3:=Lib.hid (HAR.out.later hb13)
     have hbw3:=hbw.trans (hb13.mono hbw.size)
     have HHP3:=Lib.hid (HHP.out.keep hbw3)
     obtain ⟨t0,t1,t2,t3,t4,t5,t6⟩:=Trp.blk ((HBT.out.later hb2))
     rw [HTK.out] at t2
     clear c0 c1 c2 c3 c4 c5 c6 c7 c8
     obtain ⟨c0,c1,c2,c3,c4,c5,c6,c7,c8⟩:=Wd.wblk (HAR.out.later hb12)
     rw [HNB.out] at c3
     rw [HNT.out] at c6
     have hbsz:wr.heap.size<w2.heap.size:=by have:=hb2.size;have:=HBT.out.lt;omega
     have hbsz2:w.heap.size<w2.heap.size:=by have:=hmbr;omega
     go_wp2_with fail
     rw [HW3.out]
     clear t0 t1 t2 t3 t4 t5 t6 c0 c1 c2 c3 c4 c5 c6 c7 c8
     obtain ⟨t0,t1,t2,t3,t4,t5,t6⟩:=Trp.blk HBT3.out
     obtain ⟨c0,c1,c2,c3,c4,c5,c6,c7,c8⟩:=Wd.wblk HA3.out
     rw [HNB.out] at c3
     rw [HNT.out] at c6
     rw [HTK.out] at t2
     clear hb2 hKB hb3 hb12
     cases h0:inB t.id lx nx with
     | false =>
      have HF:Hid (W.troopsOk=false):=Wd.troops_bad (k:=k) (by rw [HNT.out];exact hlt) (by rw [HOKE.out,h0];simp)
      have HC0:=Lib.hid h0
      clear h0
      refine (within_v HC0.out _).mono ?_;rintro e w' ⟨rfl,rfl⟩
      go_wp2_with fail
      go_ret
      exact ⟨ret_bool HF.out.symm,hbw3⟩
     | true =>
      have HC0:=Lib.hid h0
      clear h0
      refine (within_v HC0.out _).mono ?_;rintro e w' ⟨rfl,rfl⟩
      go_wp2_with fail
      cases h1:inB t.owner 0 ((nb:Int) - 1) with
      | false =>
       have HF:Hid (W.troopsOk=false):=Wd.troops_bad (k:=k) (by rw [HNT.out];exact hlt) (by rw [HOKE.out,h1];simp)
       have HC1:=Lib.hid h1
       clear h1
       refine (within_v HC1.out _).mono ?_;rintro e w' ⟨rfl,rfl⟩
       go_wp2_with fail
       go_ret
       exact ⟨ret_bool HF.out.symm,hbw3⟩
      | true =>
       have HC1:=Lib.hid h1
       clear h1
       refine (within_v HC1.out _).mono ?_;rintro e w' ⟨rfl,rfl⟩
       go_wp2_with fail
       cases h2:W.field.ground t.spot with
       | false =>
        have HF:Hid (W.troopsOk=false):=Wd.troops_bad (k:=k) (by rw [HNT.out];exact hlt) (by rw [HOKE.out,h2];simp)
        have HC2:=Lib.hid h2
        clear h2
        have HG:=ground_any W.field t.spot aP kP _ HHP3.out H0.out
        rw [HC2.out] at HG
        refine HG.mono ?_;rintro e w4 ⟨rfl,hb4⟩
        have hb14:=hb13.trans (hb4.mono hb13.size)
        have hbw4:=hbw.trans (hb14.mono hbw.size)
        have HBT4:=Lib.hid (HBT3.out.later hb4)
        have HM4:=Lib.hid (HM3.out.later hb4)
        have HA4:=Lib.hid (HA3.out.later hb4)
        clear t0 t1 t2 t3 t4 t5 t6 c0 c1 c2 c3 c4 c5 c6 c7 c8 HG
        obtain ⟨t0,t1,t2,t3,t4,t5,t6⟩:=Trp.blk HBT4.out
        have kb0:=cell_later hb4 kb0
        go_wp2_with fail
        go_ret
        exact ⟨ret_bool HF.out.symm,hbw4⟩
       | true =>
        have HC2:=Lib.hid h2
        clear h2
        have HG:=ground_any W.field t.spot aP kP _ HHP3.out H0.out
        rw [HC2.out] at HG
        refine HG.mono ?_;rintro e w4 ⟨rfl,hb4⟩
        have hb14:=hb13.trans (hb4.mono hb13.size)
        have hbw4:=hbw.trans (hb14.mono hbw.size)
        have HBT4:=Lib.hid (HBT3.out.later hb4)
        have HM4:=Lib.hid (HM3.out.later hb4)
        have HA4:=Lib.hid (HA3.out.later hb4)
        clear t0 t1 t2 t3 t4 t5 t6 c0 c1 c2 c3 c4 c5 c6 c7 c8 HG
        obtain ⟨t0,t1,t2,t3,t4,t5,t6⟩:=Trp.blk HBT4.out
        have kb0:=cell_later hb4 kb0
        go_wp2_with fail
        cases h3:inB t.life 1 20 with
        | false =>
         have HF:Hid (W.troopsOk=false):=Wd.troops_bad (k:=k) (by rw [HNT.out];exact hlt) (by rw [HOKE.out,h3];simp)
         have HC3:=Lib.hid h3
         clear h3
         refine (within_v HC3.out _).mono ?_;rintro e w' ⟨rfl,rfl⟩
         go_wp2_with fail
         go_ret
         exact ⟨ret_bool HF.out.symm,hbw4⟩
        | true =>
         have HC3:=Lib.hid h3
         clear h3
         refine (within_v HC3.out _).mono ?_;rintro e w' ⟨rfl,rfl⟩
         go_wp2_with fail
         cases h4:inB t.load 0 0 with
         | false =>
          have HF:Hid (W.troopsOk=false):=Wd.troops_bad (k:=k) (by rw [HNT.out];exact hlt) (by rw [HOKE.out,h4];simp)
          have HC4:=Lib.hid h4
          clear h4
          refine (within_v HC4.out _).mono ?_;rintro e w' ⟨rfl,rfl⟩
          go_wp2_with fail
          go_ret
          exact ⟨ret_bool HF.out.symm,hbw4⟩
         | true =>
          have HC4:=Lib.hid h4
          clear h4
          refine (within_v HC4.out _).mono ?_;rintro e w' ⟨rfl,rfl⟩
          go_wp2_with fail
          have hspot:t.spot.ok:=by
           obtain ⟨i1,i2,i3,i4,i5,i6⟩:=Fld.idx H0.out (Fld.ground_in HC2.out)
           obtain ⟨g1,g2,g3,g4,_,_⟩:=Fld.good H0.out
           exact ⟨okI_iff.2 (by omega),okI_iff.2 (by omega)⟩
          obtain ⟨v,HV⟩:∃ v,Hid ((MapIs.get l t.spot).getD 0=v):=⟨_,Lib.hid rfl⟩
          obtain ⟨st,l1,k1,wE,wS,HX⟩:=entryFacts HM4.out HWF.out HKN.out t.spot hspot v HV.out
          obtain ⟨hlook,e1,hlook2,f1,hlook3,hm5,hsame1,hsame2,hbE⟩:=HX
          have hv0:0≤v∧v≤1:=by
           rw [← HV.out,HGET.out]
           split<;>simp
          have HM5:=Lib.hid hm5
          have HS1:=Lib.hid hsame1
          have HS2:=Lib.hid hsame2
          have hbS:=(hbE (Nat.le_of_lt hmbw)).1 hbw4
          have HA5:=Lib.hid (HA4.out.of_heap ((hbE (B:=0) (a:=w4) (Nat.zero_le _)).2 _ (by omega)))
          have q3:wE.cell? ⟨wr.heap.size,3,none⟩=some (.int .i64 t.spot.x):=(HS1.out _ (by simp;omega)).trans t3
          have q4:wE.cell? ⟨wr.heap.size,4,none⟩=some (.int .i64 t.spot.y):=(HS1.out _ (by simp;omega)).trans t4
          have r0:wS.cell? ⟨wr.heap.size,0,none⟩=some (.int .i64 t.id):=(HS2.out _ (by simp;omega)).trans t0
          have r3:wS.cell? ⟨wr.heap.size,3,none⟩=some (.int .i64 t.spot.x):=(HS2.out _ (by simp;omega)).trans t3
          have r4:wS.cell? ⟨wr.heap.size,4,none⟩=some (.int .i64 t.spot.y):=(HS2.out _ (by simp;omega)).trans t4
          have g1:=hlook 1;have g2:=e1 1;have g3:=hlook2 1;have g4:=f1 1;have g5:=hlook3 1
          clear hm5 hsame1 hsame2 hbE hlook e1 hlook2 f1 hlook3
          simp only [drew1] at g1 g2 g3 g4 g5
          cases hcon:(W.spots k).contains t.spot with
          | true =>
           have hv1:v=1:=by rw [← HV.out,HGET.out,hcon];rfl
           subst hv1
           rw [show (1:Int)+1=2 from rfl] at g4 g5
           have HF:Hid (W.troopsOk=false):=Wd.troops_bad (k:=k) (by rw [HNT.out];exact hlt) (by rw [HOKE.out,hcon];simp)
           clear hcon
           go_region
           go_wp2_with fail
           go_ret
           exact ⟨ret_bool HF.out.symm,below_drewN hbS 1⟩
          | false =>
           have hv1:v=0:=by rw [← HV.out,HGET.out,hcon];rfl
           subst hv1
           rw [show (0:Int)+1=1 from rfl] at g4 g5
           have HK2:Hid (∀ j,j<k+1→W.okTroop j=true):=by
            intro j hj
            by_cases hjk:j<k
            ·exact HK.out j hjk
            ·obtain rfl:j=k:=by omega
             rw [HOKE.out,HC0.out,HC1.out,HC2.out,HC3.out,HC4.out,hcon];rfl
           have HG2:Hid (∀ c,MapIs.get (MapIs.put l clk t.spot (0+1)) c=if (W.spots (k+1)).contains c=true then some 1 else none):=by
            intro c
            rw [MapIs.get_put,HSPOTS.out,HGET.out]
            by_cases hct:c=t.spot
            ·simp [hct]
            ·rw [if_neg hct]
             simp [hct]
           have HWF2:Hid (∀ e∈MapIs.put l clk t.spot (0+1),e.1.ok):=MapIs.mem_put HWF.out hspot
           have HKN2:Hid (((MapIs.put l clk t.spot (0+1)).map (·.1)).Nodup):=MapIs.keys_put HKN.out _ _ _
           clear hcon hspot
           go_region
           go_wp2_with fail
           go_roundw
           case rel=>exact ⟨k+1,_,_,by omega,by go_num,by rw [HNEXT.out],HK2,HM5.out.drewN 1,HWF2,HKN2,HG2,HA5.out.drewN 1,below_drewN hbS 1⟩
           case measure=>simp [intOf];omega
    ·have hkb:inB t.kind 1 2=false:=inB_not (by omega)
     have HF:Hid (W.troopsOk=false):=Wd.troops_bad (k:=k) (by rw [HNT.out];exact hlt) (by rw [hok,hkb];rfl)
     have HKD:=Lib.hid (λ V:World=>kind_no t.kind V hkb)
     have hd1:(t.kind == 1)=false:=by simpa using hk1
     clear hok hkb hk1 hk2
     go_wp2_with fail
     rw [HW1B.out]
     refine (HKD.out _).mono ?_;rintro e w2 ⟨rfl,hb2⟩
     have hb12:=hb1.trans (hb2.mono hb1.size)
     obtain ⟨t0,t1,t2,t3,t4,t5,t6⟩:=Trp.blk ((HBT.out.later hb2))
     clear c0 c1 c2 c3 c4 c5 c6 c7 c8
     obtain ⟨c0,c1,c2,c3,c4,c5,c6,c7,c8⟩:=Wd.wblk (HAR.out.later hb12)
     have hbsz:wr.heap.size<w2.heap.size:=by have:=hb2.size;have:=HBT.out.lt;omega
     have hbsz2:w.heap.size<w2.heap.size:=by have:=hmbr;omega
     go_wp2_with fail
     go_ret
     exact ⟨ret_bool HF.out.symm,(hbw.trans (hb12.mono hbw.size)).trans ((below_alloc0 _ _).mono (by omega))⟩
  ·obtain rfl:k=nt:=by omega
   have hall:∀ j,j<W.troops.length→W.okTroop j=true:=λ j hj=>HK.out j (by rw [HNT.out] at hj;exact hj)
   have htr:W.troopsOk=(inB W.next 1 1000000 && inB W.now 0 1000000):=by
    unfold Wd.troopsOk
    rw [List.all_eq_true.2 (λ j hj=>hall j (List.mem_range.1 hj)),Bool.true_and]
   have HTR:=Lib.hid htr
   clear hall htr hnx
   cases h1:inB W.next 1 1000000 with
   | false =>
    have H1:=Lib.hid h1
    clear h1
    go_wp2_with fail
    refine (within_v H1.out _).mono ?_;rintro e w' ⟨rfl,rfl⟩
    go_wp2_with fail
    go_ret
    exact ⟨ret_bool (by rw [HTR.out,H1.out];rfl),hbw⟩
   | true =>
    have hi2:=λ V=>within_any W.now 0 1000000 V
    have H1:=Lib.hid h1
    rw [H1.out,Bool.true_and] at HTR
    clear h1
    generalize inB W.now 0 1000000=r2 at *
    go_wp2_with fail
    refine (within_v H1.out _).mono ?_;rintro e w' ⟨rfl,rfl⟩
    go_wp2_with fail
    refine (hi2 _).mono ?_;rintro e w' ⟨rfl,rfl⟩
    go_wp2_with fail
    go_ret
    exact ⟨ret_bool HTR.out.symm,hbw⟩
end
end Go.Proofs.YtlikikpgmmkjbaaGreat
