import Derived.Test.YthlpmldmhakhaaaGreatDoorMrs
import Derived.Deep.DeepCutAuto
set_option linter.unusedVariables false
set_option linter.unusedSimpArgs false
set_option maxRecDepth 100000
set_option maxHeartbeats 4000000
open Go.RowKit
namespace Go.Proofs.YthlpmldmhakhaaaGreatDoor
open Tryz
abbrev aNS:=@List.pairwise_iff_getElem
abbrev aPk:=@List.mem_iff_getElem?
abbrev aQW:=@List.drop_zero
abbrev aRc:=@List.getElem_cons_zero
theorem axo (a:ae.cW) (W:ae) (w:World) (b8:ae.Has w a W):
    Calls prog 120 #[.agg (ae.cells a W).toArray] w λ e w'=>∃ a':ae.cW,e= .returned (.agg (ae.cells a' W).toArray)∧bt w' w.heap.size a' W∧Below w.heap.size w w':=by
  obtain ⟨eH,gb,gd,fv,eP,eK,fj,fX,fz,eW⟩:=a;show Calls _ _ #[.agg #[.int .i64 W.field.wide, .int .i64 W.field.high, .slice eH W.field.places.length eK, .slice gb W.bj.length fj, .slice gd W.bh.length fX, .slice fv W.bY.length fz, .slice eP W.ah.length eW, .int .i64 W.next, .int .i64 W.now]] _ _;have cT:=kB w (.cells #[.int .i64 W.field.wide, .int .i64 W.field.high, .slice eH W.field.places.length eK, .slice gb W.bj.length fj, .slice gd W.bh.length fX, .slice fv W.bY.length fz, .slice eP W.ah.length eW, .int .i64 W.next, .int .i64 W.now] 52);have hA:=aO.new w [.int .i64 W.field.wide, .int .i64 W.field.high, .slice eH W.field.places.length eK, .slice gb W.bj.length fj, .slice gd W.bh.length fX, .slice fv W.bY.length fz, .slice eP W.ah.length eW, .int .i64 W.next, .int .i64 W.now] 52 (0,0);obtain ⟨w0,iK⟩:∃ w0,Hid (w.alloc (.cells #[.int .i64 W.field.wide, .int .i64 W.field.high, .slice eH W.field.places.length eK, .slice gb W.bj.length fj, .slice gd W.bh.length fX, .slice fv W.bY.length fz, .slice eP W.ah.length eW, .int .i64 W.next, .int .i64 W.now] 52)=w0):=⟨_,aNc rfl⟩;rw [iK.out] at cT;have kR:Hid (aO w0 w.heap.size [.int .i64 W.field.wide, .int .i64 W.field.high, .slice eH W.field.places.length eK, .slice gb W.bj.length fj, .slice gd W.bh.length fX, .slice fv W.bY.length fz, .slice eP W.ah.length eW, .int .i64 W.next, .int .i64 W.now] 52 (0,0)):=by rw [← iK.out];exact hA
  have as7:w0.heap.size=w.heap.size+1:=by rw [← iK.out];simp
  have Tq:=kB w0 (.cells #[.int .i64 0, .int .i64 0, .slice none 0 0, .slice none 0 0, .slice none 0 0, .slice none 0 0, .slice none 0 0, .int .i64 0, .int .i64 0] 52);have hR:=aO.new w0 [.int .i64 0, .int .i64 0, .slice none 0 0, .slice none 0 0, .slice none 0 0, .slice none 0 0, .slice none 0 0, .int .i64 0, .int .i64 0] 52 (0,0);rw [as7] at hR;obtain ⟨AU,QJ⟩:∃ AU,Hid (w0.alloc (.cells #[.int .i64 0, .int .i64 0, .slice none 0 0, .slice none 0 0, .slice none 0 0, .slice none 0 0, .slice none 0 0, .int .i64 0, .int .i64 0] 52)=AU):=⟨_,aNc rfl⟩;rw [QJ.out] at Tq;have o_:Hid (aO AU (w.heap.size+1) [.int .i64 0, .int .i64 0, .slice none 0 0, .slice none 0 0, .slice none 0 0, .slice none 0 0, .slice none 0 0, .int .i64 0, .int .i64 0] 52 (0,0)):=by rw [← QJ.out];exact hR
  have kR:=aNc (kR.out.later Tq);have cT:=cT.trans (Tq.mono cT.size);have abk:=b8.keep cT;have QB:=aNc (λ V (h:Below AU.heap.size AU V)=>ye eH eK W.field.places V (abk.P.keep h));have aE:=aNc (λ V (h:Below w.heap.size w V)=>MG gb fj W.bj V (b8.B.keep h));have jl:=aNc (λ V (h:Below w.heap.size w V)=>ye gd fX W.bh V (b8.S.keep h));have HU:=aNc (λ V (h:Below w.heap.size w V)=>ye fv fz W.bY V (b8.M.keep h));have vt:=aNc (λ V (h:Below w.heap.size w V)=>MH eP eW W.ah V (b8.T.keep h));have jj:=aNc b8.nums;clear b8 abk hA;go_enter func120,ntmps120;go_wp2_with fail
  rw [iK.out,QJ.out];go_wp2_with fail
  refine (QB.out _ (aNH _ _)).mono ?_;rintro e aN ⟨eZ,nd,rfl,Oe,_,dO⟩;have kU:=kR.out.later dO;obtain ⟨bU,bd,bM,c3,c4,c5,dy,dX,dY⟩:=Cw kU;have f2:=kU.free 2 (.inr (aNQ _));have bq:Below w.heap.size w (aN.setCell ⟨w.heap.size,2,none⟩ (.slice eZ W.field.places.length nd)):=(cT.trans (dO.mono cT.size)).setCell (p:=⟨w.heap.size,2,none⟩) (aNk _) _;have SR:=(o_.out.later dO).other (show w.heap.size+1≠w.heap.size by omega) 2 (.slice eZ W.field.places.length nd);have NM:=kU.set 2 (.slice eZ W.field.places.length nd);have TR:w.heap.size∉Φ.ab eZ:=GU Oe (by have:=kR.out.lt;omega);have aci:w.heap.size+1∉Φ.ab eZ:=GU Oe (by have:=o_.out.lt;omega);have Jj:=Oe.other (p:=⟨w.heap.size,2,none⟩) TR (.slice eZ W.field.places.length nd);obtain ⟨cb,XS⟩:∃ cb,Hid (aN.setCell ⟨w.heap.size,2,none⟩ (.slice eZ W.field.places.length nd)=cb):=⟨_,aNc rfl⟩;rw [XS.out] at bq NM Jj SR;have Jj:=Jj.down (show w.heap.size≤_ from cT.size);go_wp2_with fail
  rw [XS.out];go_wp2_with fail
  clear bU bd bM c3 c4 c5 dy dX dY f2 Oe kU dO;obtain ⟨bU,bd,bM,c3,c4,c5,dy,dX,dY⟩:=Cw NM;have HO:=aNc NM;have XP:=aNc Jj;have Me:Hid (w.heap.size∉Φ.ab eZ):=aNc TR;have akU:Hid (w.heap.size+1∉Φ.ab eZ):=aNc aci;have XQ:=aNc SR;have aHf:=XQ.out.lt;clear NM Jj SR TR aci;have DF:=aNH cb.heap.size cb;have aHg:=HO.out.lt
  go_cut [9] (λ _ nk=>XU w nk eZ nd W fv fz eP eW cb.heap.size)
  case first =>
   go_region_law (first
    | (refine Pl rfl 64 _ func64 (by kernel_rfl) (by kernel_rfl) _ _ rfl #[.slice gb W.bj.length fj] (by simp [Act.eval,Act.put]) ?_
       refine (aE.out _ bq.drew).mono ?_;rintro e w3 ⟨et,lK,rfl,JN,_,er⟩;have pw:Below cb.heap.size cb w3:=YA DF er;have c4:=cell_later pw c4;refine ⟨_,Z, ?_⟩)
    | (refine Pl rfl 65 _ func65 (by kernel_rfl) (by kernel_rfl) _ _ rfl #[.slice gd W.bh.length fX] (by simp [Act.eval,Act.put]) ?_
       refine (jl.out _ (bq.trans (pw.mono bq.size))).mono ?_;rintro e n5 ⟨ez,lU,rfl,JO,_,dZ⟩;have ru:Below cb.heap.size cb n5:=mO pw dZ;obtain ⟨d0,d1,d2,d3,d4,d5,d6,d7,d8⟩:=Cw (HO.out.later ru);have f3:=(HO.out.later ru).free 3 (.inr (aNQ _));have f4:=(HO.out.later ru).free 4 (.inr (aNQ _));refine ⟨_,Z, ?_⟩))
   all_goals
    have abj:=XQ.out.later ru;have aa0:=HO.out.later ru;have abe:=XP.out.later ru;have aa4:=JN.later dZ;have abz:=bq.trans (ru.mono bq.size);have F4:=(aa0.set 3 (.slice et W.bj.length lK)).set 4 (.slice ez W.bh.length lU);have Gb:=(abj.other (show w.heap.size+1≠w.heap.size by omega) 3 (.slice et W.bj.length lK)).other (show w.heap.size+1≠w.heap.size by omega) 4 (.slice ez W.bh.length lU);have Ga:=(abe.other (p:=⟨w.heap.size,3,none⟩) Me.out (.slice et W.bj.length lK)).other (p:=⟨w.heap.size,4,none⟩) Me.out (.slice ez W.bh.length lU);have F5:=(aa4.other (p:=⟨w.heap.size,3,none⟩) (GU JN (by show w.heap.size<cb.heap.size;omega)) (.slice et W.bj.length lK)).other (p:=⟨w.heap.size,4,none⟩) (GU JN (by show w.heap.size<cb.heap.size;omega)) (.slice ez W.bh.length lU);have Gc:=(JO.other (p:=⟨w.heap.size,3,none⟩) (GU JO (by have:=pw.size;show w.heap.size<w3.heap.size;omega)) (.slice et W.bj.length lK)).other (p:=⟨w.heap.size,4,none⟩) (GU JO (by have:=pw.size;show w.heap.size<w3.heap.size;omega)) (.slice ez W.bh.length lU);have sL:Below w.heap.size w ((n5.setCell ⟨w.heap.size,3,none⟩ (.slice et W.bj.length lK)).setCell ⟨w.heap.size,4,none⟩ (.slice ez W.bh.length lU)):=(abz.setCell (p:=⟨w.heap.size,3,none⟩) (aNk _) _).setCell (p:=⟨w.heap.size,4,none⟩) (aNk _) _;have cw:Hid (XU w ((n5.setCell ⟨w.heap.size,3,none⟩ (.slice et W.bj.length lK)).setCell ⟨w.heap.size,4,none⟩ (.slice ez W.bh.length lU)) eZ nd W fv fz eP eW cb.heap.size):=aNc ⟨et,lK,ez,lU,w3.heap.size,n5.heap.size,F4,Gb,Ga,F5,Gc,JN.lt,JO.lt,sL,pw.size,dZ.size,by simp [World.setCell]⟩;clear F4 Gb Ga F5 Gc sL JN JO abj aa0 abe aa4 abz pw ru er dZ bU bd bM c3 c4 c5 dy dX dY d0 d1 d2 d3 d4 d5 d6 d7 d8 f3 f4 DF;go_wp2_with fail
    go_meet
    exact cw.out
  case rest =>
    obtain ⟨et,lK,ez,lU,pA,qD,F4,Gb,Ga,F5,Gc,G1,afX,sL,ui,pB,rP⟩:=hcut;obtain ⟨qL,ajT⟩:∃ qL:World,Hid (qL=wc):=⟨wc,aNc rfl⟩;rw [← ajT.out] at F4 Gb Ga F5 Gc sL rP ⊢;have ak0:=aNc XP.out.lt;have Mf:=aNc G1;have Mg:=aNc afX;have ajM:=aNc Ga;have ajz:=aNc F5;have ajS:=aNc Gc;have ajO:=aNc Gb;have zn:=aNc F4;clear F4 Gb Ga F5 Gc G1 afX bU bd bM c3 c4 c5 dy dX dY DF;obtain ⟨bU,bd,bM,c3,c4,c5,dy,dX,dY⟩:=Cw zn.out;have DF:=aNH qL.heap.size qL;go_wp2_with fail
    go_region_law (first
      | (refine Pl rfl 65 _ func65 (by kernel_rfl) (by kernel_rfl) _ _ rfl #[.slice fv W.bY.length fz] (by simp [Act.eval,Act.put]) ?_
         refine (HU.out _ sL.drew).mono ?_;rintro e K0 ⟨mn,nS,rfl,Gy,_,abr⟩;have Jt:Below qL.heap.size qL K0:=YA DF abr;have dy:=cell_later Jt dy;refine ⟨_,Z, ?_⟩)
      | (refine Pl rfl 69 _ func69 (by kernel_rfl) (by kernel_rfl) _ _ rfl #[.slice eP W.ah.length eW] (by simp [Act.eval,Act.put]) ?_
         refine (vt.out _ (sL.trans (Jt.mono sL.size))).mono ?_;rintro e Cs ⟨mD,n3,rfl,Gz,_,NV⟩;have yA:Below qL.heap.size qL Cs:=mO Jt NV;obtain ⟨d0,d1,d2,d3,d4,d5,d6,d7,d8⟩:=Cw (zn.out.later yA);have f5:=(zn.out.later yA).free 5 (.inr (aNQ _));have f6:=(zn.out.later yA).free 6 (.inr (aNQ _));refine ⟨_,Z, ?_⟩))
    all_goals
      have att:=Jt.size;have arz:=sL.trans (yA.mono sL.size);have cX:w.heap.size<K0.heap.size:=by omega
      have fo:w.heap.size<qL.heap.size:=by omega
      have SH:=((zn.out.later yA).set 5 (.slice mn W.bY.length nS)).set 6 (.slice mD W.ah.length n3);have SS:=((ajO.out.later yA).other (show w.heap.size+1≠w.heap.size by omega) 5 (.slice mn W.bY.length nS)).other (show w.heap.size+1≠w.heap.size by omega) 6 (.slice mD W.ah.length n3);have SP:=((ajM.out.later yA).other (p:=⟨w.heap.size,5,none⟩) Me.out (.slice mn W.bY.length nS)).other (p:=⟨w.heap.size,6,none⟩) Me.out (.slice mD W.ah.length n3);have SI:=((ajz.out.later yA).other (p:=⟨w.heap.size,5,none⟩) (λ h=>by have:=(Mf.out _ h).1;simp at this;omega) (.slice mn W.bY.length nS)).other (p:=⟨w.heap.size,6,none⟩) (λ h=>by have:=(Mf.out _ h).1;simp at this;omega) (.slice mD W.ah.length n3);have SV:=((ajS.out.later yA).other (p:=⟨w.heap.size,5,none⟩) (λ h=>by have:=(Mg.out _ h).1;simp at this;omega) (.slice mn W.bY.length nS)).other (p:=⟨w.heap.size,6,none⟩) (λ h=>by have:=(Mg.out _ h).1;simp at this;omega) (.slice mD W.ah.length n3);have SN:=((Gy.later NV).other (p:=⟨w.heap.size,5,none⟩) (λ h=>by have:=(Gy.lt _ h).1;simp at this;omega) (.slice mn W.bY.length nS)).other (p:=⟨w.heap.size,6,none⟩) (λ h=>by have:=(Gy.lt _ h).1;simp at this;omega) (.slice mD W.ah.length n3);have SW:=(Gz.other (p:=⟨w.heap.size,5,none⟩) (λ h=>by have:=(Gz.lt _ h).1;simp at this;omega) (.slice mn W.bY.length nS)).other (p:=⟨w.heap.size,6,none⟩) (λ h=>by have:=(Gz.lt _ h).1;simp at this;omega) (.slice mD W.ah.length n3);have abt:Below w.heap.size w ((Cs.setCell ⟨w.heap.size,5,none⟩ (.slice mn W.bY.length nS)).setCell ⟨w.heap.size,6,none⟩ (.slice mD W.ah.length n3)):=(arz.setCell (p:=⟨w.heap.size,5,none⟩) (aNk _) _).setCell (p:=⟨w.heap.size,6,none⟩) (aNk _) _;have ib:(Φ.ab eZ++Φ.ab et++Φ.ab ez++Φ.ab mn++Φ.ab mD).Nodup:=by
        have κ:=Mq (m:=pA) ⟨rb eZ,λ g aU=>(ak0.out g aU).2⟩ (rb et) Mf.out ui;have τ:=Mq κ (rb ez) Mg.out pB;have aq:=Mq (n:=qL.heap.size) (m:=K0.heap.size) ⟨τ.1,λ g aU=>by have:=τ.2 g aU;omega⟩ (rb mn) Gy.lt att;exact (Mq aq (rb mD) Gz.lt (by have:=NV.size;omega)).1
      obtain ⟨K1,ajU⟩:∃ K1,Hid ((Cs.setCell ⟨w.heap.size,5,none⟩ (.slice mn W.bY.length nS)).setCell ⟨w.heap.size,6,none⟩ (.slice mD W.ah.length n3)=K1):=⟨_,aNc rfl⟩;rw [ajU.out] at abt SH SS SP SI SV SN SW ⊢;have ajD:=aNc (show bt K1 w.heap.size ⟨eZ,et,ez,mn,mD,nd,lK,lU,nS,n3⟩ W from ⟨SP,SI.down (by show w.heap.size≤cb.heap.size;omega),SV.down (by omega),SN.down (by show w.heap.size≤qL.heap.size;omega),SW.down (by omega),ib,jj.out⟩);have ajI:Hid (w.heap.size+1∉bt.cA ⟨eZ,et,ez,mn,mD,nd,lK,lU,nS,n3⟩):=aNc (λ h=>by
        unfold bt.cA at h;simp only [aNi] at h;rcases h with (((h | h) | h) | h) | h
        · exact akU.out h
        · have:=(Mf.out _ h).1;omega
        · have:=(Mg.out _ h).1;omega
        · have:=(Gy.lt _ h).1;(try simp at this);omega
        · have:=(Gz.lt _ h).1;(try simp at this);omega)
      have QE:=aNc SS;have ajy:Hid (aO K1 w.heap.size [.int .i64 W.field.wide, .int .i64 W.field.high, .slice eZ W.field.places.length nd, .slice et W.bj.length lK, .slice ez W.bh.length lU, .slice mn W.bY.length nS, .slice mD W.ah.length n3, .int .i64 W.next, .int .i64 W.now] 52 (0,0)):=aNc SH;clear SH SS SP SI SV SN SW ib Gy Gz NV abr yA Jt bU bd bM c3 c4 c5 dy dX dY d0 d1 d2 d3 d4 d5 d6 d7 d8 f5 f6;obtain ⟨bU,bd,bM,c3,c4,c5,dy,dX,dY⟩:=Cw ajy.out;obtain ⟨e0,aR,a1,cL,iY,IL,IM,ZO,ZP⟩:=Cw QE.out;have ao:=λ j=>QE.out.free j (.inr (aNQ _));have aFL:=ao 0;have aFM:=ao 1;have aFN:=ao 2;have aFO:=ao 3;have aFP:=ao 4;have aFQ:=ao 5;have aFR:=ao 6;have aFS:=ao 7;have aFT:=ao 8;clear ao;go_wp2_with fail
      obtain ⟨xo,ajV⟩:∃ xo,Hid ((((((((((K1.setCell ⟨w.heap.size+1,0,none⟩ (.int .i64 W.field.wide)).setCell ⟨w.heap.size+1,1,none⟩ (.int .i64 W.field.high)).setCell ⟨w.heap.size+1,2,none⟩ (.slice eZ W.field.places.length nd)).setCell ⟨w.heap.size+1,3,none⟩ (.slice et W.bj.length lK)).setCell ⟨w.heap.size+1,4,none⟩ (.slice ez W.bh.length lU)).setCell ⟨w.heap.size+1,5,none⟩ (.slice mn W.bY.length nS)).setCell ⟨w.heap.size+1,6,none⟩ (.slice mD W.ah.length n3)).setCell ⟨w.heap.size+1,7,none⟩ (.int .i64 W.next)).setCell ⟨w.heap.size+1,8,none⟩ (.int .i64 W.now))=xo):=⟨_,aNc rfl⟩;have NR:=awH QE.out (.int .i64 W.field.wide) (.int .i64 W.field.high) (.slice eZ W.field.places.length nd) (.slice et W.bj.length lK) (.slice ez W.bh.length lU) (.slice mn W.bY.length nS) (.slice mD W.ah.length n3) (.int .i64 W.next) (.int .i64 W.now);have abd:=ajD.out.nine ajI.out (.int .i64 W.field.wide) (.int .i64 W.field.high) (.slice eZ W.field.places.length nd) (.slice et W.bj.length lK) (.slice ez W.bh.length lU) (.slice mn W.bY.length nS) (.slice mD W.ah.length n3) (.int .i64 W.next) (.int .i64 W.now);have abu:=alB abt (show w.heap.size≤w.heap.size+1 by omega) (.int .i64 W.field.wide) (.int .i64 W.field.high) (.slice eZ W.field.places.length nd) (.slice et W.bj.length lK) (.slice ez W.bh.length lU) (.slice mn W.bY.length nS) (.slice mD W.ah.length n3) (.int .i64 W.next) (.int .i64 W.now);rw [ajV.out] at NR abd abu ⊢;obtain ⟨v0,v1,v2,v3,v4,v5,v6,aAG,aAH⟩:=Cw NR;refine aQM (v:= .agg #[.int .i64 W.field.wide, .int .i64 W.field.high, .slice eZ W.field.places.length nd, .slice et W.bj.length lK, .slice ez W.bh.length lU, .slice mn W.bY.length nS, .slice mD W.ah.length n3, .int .i64 W.next, .int .i64 W.now]) ?_ Z ⟨⟨eZ,et,ez,mn,mD,nd,lK,lU,nS,n3⟩,Z,abd,abu⟩;simp [results,results120,go_sem,v0,v1,v2,v3,v4,v5,v6,aAG,aAH]
section
variable {d:dc} {w aN:World} {aA S:Nat} {a:ae.cW} {l:List dc}
theorem ajx:dN prog n1 112 4 1:=dN.jz (z:= .bool false) (k:=1) underlying112 (by kernel_rfl) rfl rfl (by decide) (λ j u h=>U_ j u h)
theorem ae.Zu {W:ae} (h:d.kind=1):W.kD d=W.mv d:=by unfold ae.kD;rw [aNd h]
theorem ae.Zs {W:ae} (h:d.kind=2):W.kD d=W.drop d:=by unfold ae.kD;rw [aM4 (by omega),aNd h]
theorem ae.Zt {W:ae} (h:d.kind=3):W.kD d=W.qi d:=by unfold ae.kD;rw [aM4 (by omega),aM4 (by omega),aNd h]
theorem ae.Zv {W:ae} (κ:¬ d.kind=1) (τ:¬ d.kind=2) (aq:¬ d.kind=3):W.kD d=none:=by unfold ae.kD;rw [aM4 κ,aM4 τ,aM4 aq]
theorem RE {W:ae} {V:Option ae} {f:FuncId} {args:Array Value} (h:Calls prog f args aN (vH W V aN aA S a)) (x:Ext w aN):Calls prog f args aN (vH W V w aA S a):=
 h.mono λ e cb ⟨a2,κ,τ,aq,bb⟩=>⟨a2,κ,τ,λ q I=>(aq q I).imp id λ h=>aNm x.size h,(Mod.aP x).trans bb⟩
theorem awb (d:dc) (w:World) (aA S:Nat) (a:ae.cW) (W:ae) (h:kS w aA S a W) (ar:Good W):Calls prog 143 #[.pointer (a_ S), .agg #[γ d.kind,γ d.bf,γ d.spot.x,γ d.spot.y,γ d.what]] w (vH W (W.mv d) w aA S a):=by
 cases hf:W.ah.findIdx? (gL d.bf) with
 | none=>exact awa d w aA S a W h ar hf
 | some k=>obtain ⟨t,aD,_⟩:=FX hf;exact av9 d w aA S a W h ar k t hf aD
theorem an2 (d:dc) (w:World) (aA S:Nat) (a:ae.cW) (W:ae) (h:kS w aA S a W) (ar:Good W):Calls prog 144 #[.pointer (a_ S), .agg #[γ d.kind,γ d.bf,γ d.spot.x,γ d.spot.y,γ d.what]] w (vH W (W.drop d) w aA S a):=by
 cases hf:W.ah.findIdx? (gL d.bf) with
 | none=>exact an1 d w aA S a W h ar hf
 | some k=>obtain ⟨t,aD,_⟩:=FX hf;exact drop2 d w aA S a W h ar k t hf aD
theorem ar2 (d:dc) (w:World) (aA S:Nat) (a:ae.cW) (W:ae) (h:kS w aA S a W) (ar:Good W):Calls prog 145 #[.pointer (a_ S), .agg #[γ d.kind,γ d.bf,γ d.spot.x,γ d.spot.y,γ d.what]] w (vH W (W.qi d) w aA S a):=ar1 d w aA S a W h ar
theorem kS.mod {W:ae} {T:List Nat} (h:kS w aA S a W) (m:Mod T w aN) (hd:∀ q∈T,q≠S∧q∉bt.cA a):kS aN aA S a W :=
 ⟨h.en.mod m λ I=>(hd _ I).1 rfl,h.own.mod m λ q I aX=>(hd q aX).2 I,h.far,h.low⟩
def ae.p6 (W:ae) (l:List dc):Int:=if W.a7≠0 then W.a7 else if 200<l.length then 2 else 0
def ae.sA (W:ae) (l:List dc):ae:=if W.p6 l=0 then (W.g_ l).1 else ae.zero
def ae.vS (W:ae) (l:List dc):List Bool:=if W.p6 l=0 then (W.g_ l).2 else []
def ajp (W:ae) (l:List dc) (w:World) (e:Ending) (w':World):Prop :=
 ∃ a' A c,e= .returned (.tuple #[.agg (ae.cells a' (W.sA l)).toArray, .slice A (W.vS l).length c,γ (W.p6 l)])∧bt w' w.heap.size a' (W.sA l)∧n1.aM 4 1 w' w.heap.size (Φ.ab A) A c (W.vS l)∧(∀ q∈Φ.ab A,q∉bt.cA a')∧Ext w w'
theorem anP {W:ae} (h:¬ W.a7=0):W.sA l=ae.zero∧W.vS l= []∧W.p6 l=W.a7:=by
 have he:W.p6 l=W.a7:=by unfold ae.p6;rw [aNd h]
 unfold ae.sA ae.vS;rw [he,aM4 h,aM4 h];exact ⟨Z,Z,Z⟩
theorem anQ {W:ae} (h:W.a7=0) (ay:200<l.length):W.sA l=ae.zero∧W.vS l= []∧W.p6 l=2:=by
 have he:W.p6 l=2:=by unfold ae.p6;rw [aM4 (by simpa using h),aNd ay]
 unfold ae.sA ae.vS;rw [he];exact ⟨Z,Z,Z⟩
theorem RI {W:ae} (h:W.a7=0) (ay:l.length≤200):W.p6 l=0:=by unfold ae.p6;rw [aM4 (by simpa using h),aM4 (by omega)]
theorem RH {W:ae} (h:W.a7=0) (ay:l.length≤200):W.sA l=(W.g_ l).1:=by unfold ae.sA;rw [aNd (RI h ay)]
theorem M0 {W:ae} (h:W.a7=0) (ay:l.length≤200):W.vS l=(W.g_ l).2:=by unfold ae.vS;rw [aNd (RI h ay)]
theorem anH (W:ae) (l:List dc) (d:dc):W.g_ (l++ [d])=(((W.g_ l).1.kD d).getD (W.g_ l).1,(W.g_ l).2++ [((W.g_ l).1.kD d).isSome]):=by
 induction l generalizing W with
 | nil=>simp only [aOA,ae.g_];cases W.kD d<;>rfl
 | cons x r bu =>
  simp only [aPo,ae.g_];cases W.kD x with
  | none=>simp only [bu];rfl
  | some V=>simp only [bu];rfl
theorem RF {W:ae} {k:Nat} (aj:k<l.length):W.g_ (l.take (k+1))=(((W.g_ (l.take k)).1.kD (l.getD k default)).getD (W.g_ (l.take k)).1,(W.g_ (l.take k)).2++ [((W.g_ (l.take k)).1.kD (l.getD k default)).isSome]):=by
 rw [← anH,aNs aj];congr 3;rw [aM0,aM3 aj];rfl
theorem Zw (W:ae) (l:List dc):(W.g_ l).2.length=l.length:=by
 induction l generalizing W with
 | nil=>rfl
 | cons x r bu =>
  simp only [ae.g_];cases W.kD x with
  | none=>simp only [aM1,bu]
  | some V=>simp only [aM1,bu]
theorem anG (d:dc) (w:World) (aA S:Nat) (a:ae.cW) (W:ae) (h:kS w aA S a W) (ar:Good W):
  Calls prog 121 #[.pointer (a_ S), .agg #[γ d.kind,γ d.bf,γ d.spot.x,γ d.spot.y,γ d.what]] w (vH W (W.kD d) w aA S a):=by
 refine cx (n:=22) func121 Z Z Z ?_;refine fa Z Z λ dk bx bm fQ ag=> ?_;have hx:=bm;refine aT Z<|aI<|aF<|aa (au aoq Z)<|bA Z ag a6 Z<|aJ<|bT<|aF<|aa (beq Z Z)<|aT Z<| ?_;refine lf Z (λ oC=> ?_) (λ oC=> ?_)
 ·refine aK Z<|aa (aB Z (ag.all IP Di))<|ca aor Z Z ((RE (awb d _ aA S a W (h.later bm) ar) hx).mono ?_);rintro e uG ⟨a2,rfl,hS,hf,hm⟩;refine cF ?_;refine bH Z<|hq<|cU<|cZ Z Z<| ?_;exact ⟨a2,by rw [ae.Zu ‹_›];rfl,by rw [ae.Zu ‹_›];exact hS,hf,hm⟩
 ·refine aF<|aa (beq Z Z)<|aT Z<| ?_;refine lf Z (λ Ad=> ?_) (λ Ad=> ?_)
  ·refine aK Z<|aa (aB Z (ag.all IP Di))<|ca aos Z Z ((RE (an2 d _ aA S a W (h.later bm) ar) hx).mono ?_);rintro e uD ⟨a2,rfl,hS,hf,hm⟩;refine cF ?_;refine bH Z<|hq<|cU<|cZ Z Z<| ?_;exact ⟨a2,by rw [ae.Zs ‹_›];rfl,by rw [ae.Zs ‹_›];exact hS,hf,hm⟩
  ·refine aF<|aa (beq Z Z)<|aT Z<| ?_;refine lf Z (λ hT=> ?_) (λ hT=> ?_)
   ·refine aK Z<|aa (aB Z (ag.all IP Di))<|ca aot Z Z ((RE (ar2 d _ aA S a W (h.later bm) ar) hx).mono ?_);rintro e He ⟨a2,rfl,hS,hf,hm⟩;refine cF ?_;refine bH Z<|hq<|cU<|cZ Z Z<| ?_;exact ⟨a2,by rw [ae.Zt ‹_›];rfl,by rw [ae.Zt ‹_›];exact hS,hf,hm⟩
   ·refine fZ<|cl<|br<|aF<|bH Z<|cZ Z Z<| ?_;exact ⟨a,by rw [ae.Zv ‹_› ‹_› ‹_›];rfl,by rw [ae.Zv ‹_› ‹_› ‹_›];exact h.later bm,λ q I=> .inl I,Mod.aP bm⟩
theorem anO (l:List dc) (A:Option Addr) (c:Nat) (w:World) (a:ae.cW) (W:ae) (b8:ae.Has w a W) (ay:dc.rep.aQ 40 w A c l):
  Calls prog 89 #[.agg ((ae.cells a W).toArray), .slice A l.length c] w (ajp W l w):=by
 refine cx (n:=40) func89 Z Z Z ?_;refine fa Z Z λ dk bx bm fQ ag=> ?_;have jd:=ag.lt;refine dn p8 Z λ fT dJ bD j' aG=> ?_;have b7:=J bm bD;have qG:=aG.lt;refine va Z<|aT Z<|aI<|aF<| ?_;have ag:=ag.later bD;refine aa (aB Z (ag.all fg cQ))<|c0 FP Z (Fu a W _ (b8.keep b7)) λ hX gp=> ?_;have:=gp.size;have cY:=J b7 gp;refine aT Z<|aK Z<|gN Z Z<|aJ<| ?_;refine oq Z (λ mi=> ?_) (λ mi=> ?_)
 ·refine aF<|aa (v:= .agg #[γ 0,γ 0, .slice none 0 0, .slice none 0 0, .slice none 0 0, .slice none 0 0, .slice none 0 0,γ 0,γ 0]) (hC Z)<|vm Z<| ?_;have aG:=aG.later gp;refine c9 Z Z aG Z cQ Z Z λ qN oO aG=> ?_;have l3:=Ext.mod cY oO bF;refine va Z<|bH Z<|cU<|dS (.cell Z (aG.all fg cQ) (.tmp Z (.tmp Z .nil)))<| ?_;obtain ⟨aR,a1,cL⟩:=anP ‹_›;exact ⟨⟨none,none,none,none,none,0,0,0,0,0⟩,none,0,by rw [aR,a1,cL];rfl,by rw [aR];exact bt.zero _ _,by rw [a1];exact Φ.aM.nil _,λ q I=>by simp [Φ.ab] at I,l3⟩
 ·have ar:=Good.um mi;refine bE<|aI<|aK Z<|aa (dr underlying145 Z)<|aa (hO Z Z)<|aJ<| ?_;refine fH Z (λ v_=> ?_) (λ v_=> ?_)
  ·refine aF<|aa (v:= .agg #[γ 0,γ 0, .slice none 0 0, .slice none 0 0, .slice none 0 0, .slice none 0 0, .slice none 0 0,γ 0,γ 0]) (hC Z)<| ?_;have aG:=aG.later gp;refine c9 Z Z aG Z cQ Z Z λ uE B9 aG=> ?_;have ke:=Ext.mod cY B9 bF;refine va Z<|bH Z<|cU<|dS (.cell Z (aG.all fg cQ) (.tmp Z (.tmp Z .nil)))<| ?_;obtain ⟨aR,a1,cL⟩:=anQ (W:=W) (l:=l) mi (by omega);exact ⟨⟨none,none,none,none,none,0,0,0,0,0⟩,none,0,by rw [aR,a1,cL];rfl,by rw [aR];exact bt.zero _ _,by rw [a1];exact Φ.aM.nil _,λ q I=>by simp [Φ.ab] at I,ke⟩
  ·refine bE<|aF<| ?_;have ag:=ag.later gp;refine aa (aB Z (ag.all fg cQ))<|ca aou Z Z ((axo a W _ (b8.keep cY)).mono ?_);rintro e AP ⟨di,rfl,bc,kd⟩;refine cF ?_;have:=kd.size;have nw:=J cY kd;have y1:=bZ bc.lt;refine aa (v:= .agg #[γ W.field.wide,γ W.field.high, .slice di.P W.field.places.length di.p, .slice di.B W.bj.length di.b, .slice di.S W.bh.length di.s, .slice di.M W.bY.length di.m, .slice di.T W.ah.length di.t,γ W.next,γ W.now]) (hC Z)<|dn aov Z λ AR nJ lZ aeb zj=> ?_;have mK:=J nw lZ;refine c9 Z Z zj Z aow Z Z λ s4 lr zj=> ?_;have k4:=Ext.mod mK lr bF;refine aJ<|aF<|aT Z<|aI<|aK Z<|aa (dr underlying145 Z)<|vm Z<|aJ<|bT<| ?_;have bc:=(bc.later lZ).mod lr (bl y1);have jl:kS s4 hX.heap.size nJ di W:=⟨zj,bc,λ I=>by have:=y1 _ I;omega,by omega⟩;have aG:=(aG.later (J gp (J kd lZ))).mod lr aY;refine gi (λ cJ cu aV=>∃ k:Nat,∃ a2:ae.cW,∃ Bc:Option Addr,∃ ME:Nat,cu= [(4, .pointer (a_ dJ)),(5, .slice none 0 0),(6,γ 0),(8, .pointer (a_ nJ)),(9, .slice Bc ((W.g_ (l.take k)).2.length) ME),(25, .slice A l.length c),(26,γ (l.length:Int)),(27,γ (k:Int))]∧cJ=l.length - k∧Ext w aV∧aO aV dJ [γ 0,γ 0, .slice none 0 0, .slice none 0 0, .slice none 0 0, .slice none 0 0, .slice none 0 0,γ 0,γ 0] 52 (0,0)∧kS aV hX.heap.size nJ a2 (W.g_ (l.take k)).1∧n1.aM 4 1 aV w.heap.size (Φ.ab Bc) Bc ME (W.g_ (l.take k)).2∧(k≤l.length)∧(∀ q∈Φ.ab Bc,q≠nJ∧q∉bt.cA a2)∧(∀ q∈Φ.ab Bc,q=dJ→False)) _ _ ⟨0,di,none,0,Z,Z,k4,aG,jl,(Φ.aM.nil _),by omega,λ q I=>by simp [Φ.ab] at I,(λ q I af=>by (simp [Φ.ab] at I))⟩ (eS Z Z Z) ?_;rintro Kh aDN V5 ⟨k,a2,Bc,ME,rfl,rfl,td,aG,jl,tv,aj,hd,vQ⟩;have ayd:=aG.lt;have aAx:=bZ tv.lt;have Ps:=λ q I=>(jl.own.lt q I).2;have Ge:=jl.en.lt;have Gj:(W.g_ (l.take k)).2.length=k:=by rw [Zw,aM9];omega
   refine aF<|fB Z Z<|aJ<|aI<| ?_;refine fH Z (λ tQ=> ?_) (λ tQ=> ?_)
   ·refine bE<|aI<|bT<|aF<|aa (bX k underlying145 Di Z Z ((ay.keep td).bw (aZ k)) Z (by omega))<|aa (aB Z (Φ.aQ.jJ arA (by rw [← (ay.keep td).bw (aZ k)];exact (ay.keep td)) (cj (l:=l) (u:=default) (by omega)) IP Di))<|dn aox Z λ V6 aEP A0 aIu LB=> ?_;have CI:=J td A0;have afQ:=LB.lt;refine c9 Z Z LB Z Di Z Z λ ahr Ki LB=> ?_;have:=Ki.size;have Hy:=Ext.mod CI Ki bF;refine aJ<|rg<|vm Z<|aa (aB Z (LB.all IP Di))<| ?_;have jl:=(jl.later A0).mod Ki (λ q I=>by rw [aMZ.1 I];exact ⟨by omega,λ hf=>by have:=Ps _ hf;have:=(jl.own.lt _ hf).1;omega⟩);have tv:=(tv.later A0).mod Ki (bl aAx);refine ca aoy Z Z ((anG (l.getD k default) _ hX.heap.size nJ a2 (W.g_ (l.take k)).1 jl (ar.g_ _)).mono ?_);rintro e K5 ⟨a3,rfl,ajR,hf,pQ⟩;refine cF ?_;have hu:=bZ tv.lt;have:=pQ.size;have uZ:=Ext.mod Hy pQ (λ q I=>(aNg.1 I).elim (λ h=>by rw [h];omega) (λ h=>by have:=(jl.own.lt q h).1;omega));have Gi:∀ q∈Φ.ab Bc,q≠nJ∧q∉bt.cA a3:=λ q I=>⟨(hd q I).1,λ h=>(hf q h).elim (hd q I).2 (λ h=>by have:=hu q I;omega)⟩;have ajP:=jl;have jl:=ajR;have Ps:=λ q I=>(jl.own.lt q I).2;refine b_ (e:= 4) (cs:= [.bool (((W.g_ (l.take k)).1.kD (l.getD k default)).isSome)]) Z (λ _=>by kernel_rfl) Z λ K6 aEW hY aIA Xy=> ?_;have r5:=J uZ hY;have ayi:=Xy.lt;have tv:=(tv.mod pQ (λ q I h=>(aNg.1 h).elim (hd q I).1 (hd q I).2)).later hY;refine ap ajx Φ.c6 tv (aO.fy (R:=n1) (by_:=1) (q:=((W.g_ (l.take k)).1.kD (l.getD k default)).isSome) Xy ⟨Z,trivial⟩ (by decide)) Z Z (by simp only [aM1,aM5];omega) (by simp only [aM1,aM5];omega) r5.size Z λ PL W8 amD Kj akI aaS aJG=> ?_;have ze:=Ext.mod r5 Kj (λ q I=>(tv.lt q I).1);have arE:∀ q∈Φ.ab W8,q≠nJ∧q∉bt.cA a3:=λ q I=>(aaS q I).elim (Gi q) (λ h=>⟨by omega,λ hf=>by have:=Ps q hf;omega⟩);refine va Z<|nl<|cl<|eR Z Z Z<| ?_;have aG:=((((aG.later A0).mod Ki aY).mod pQ (λ h=>(aNg.1 h).elim (λ h=>by omega) (λ h=>by have:=(ajP.own.lt _ h).1;omega))).later hY).mod Kj (λ I=>vQ _ I rfl);have jl:=(jl.later hY).mod Kj (λ q I=>Gi q I);exact lT _ _ ⟨k+1,a3,W8,amD,Z,Z,ze,aG,(by rw [RF (by omega:k<l.length)];exact jl),(by rw [RF (by omega:k<l.length)];exact akI),by omega,arE,(gz aaS vQ)⟩ (by omega) (.cons Z (.cons Z (.cons Z (.cons Z (.cons (by rw [RF (by omega:k<l.length)];rfl) (eS Z Z Z))))))
   ·refine ej<|ei<|eU<|eh<|br<|aF<|aa (au mg Z)<|aa (aB Z (jl.en.all fg cQ))<|vm Z<|st Z Z aG Z cQ Z Z Z λ Hi ie aG=> ?_;have ob:=Ext.mod td ie bF;refine va Z<|bH Z<|dS (.cell Z (aG.all fg cQ) (.tmp Z (.tmp Z .nil)))<| ?_;have jl:=jl.mod ie (λ q I=>by rw [aMZ.1 I];exact ⟨by omega,λ hf=>by have:=Ps _ hf;have:=(jl.own.lt _ hf).1;omega⟩);have tv:=tv.mod ie (c2 vQ);obtain rfl:k=l.length:=by omega
    refine ⟨a2,Bc,ME, ?_, ?_, ?_,λ q I=>(hd q I).2,ob⟩
    ·rw [RH mi (by omega),M0 mi (by omega),RI mi (by omega),aOQ];rfl
    ·rw [RH mi (by omega)];rw [aOQ] at jl;exact jl.own.down (by omega)
    ·rw [M0 mi (by omega)];rw [aOQ] at tv;exact tv
end
def wt (t:a8):Int:=t.load+ae.k1 t.kind
def ae.total (W:ae):Int:=W.bY.sum+W.bh.sum+(W.ah.map wt).sum
def ae.aMT (W:ae):Int:=if W.a7=0 then W.total else 0
def azx:ae:=⟨⟨3,1, [0,0,3]⟩, [⟨0,0⟩], [20], [0,0,9], [⟨1,0,1,⟨1,0⟩,10,0⟩],2,0⟩
def azw:List dc:= [(⟨1,1,⟨2,0⟩,0⟩:dc),(⟨3,0,⟨0,0⟩,2⟩:dc)]
def aLc:ae:=azx.sA azw
section
theorem awL:∀ (n:Nat) (l:List Nat),l.Nodup→(∀ x∈l,x<n)→l.length≤n:=by
 intro n;induction n with
 | zero =>
  intro l _ h;cases l with
  | nil=>exact aNk _
  | cons x r=>exact absurd (h x aNo) (by omega)
 | succ n bu =>
  intro l hn h;by_cases hm:n∈l
  ·have κ:=bu (l.erase n) (hn.erase _) (λ x hx=>by
    have:=h x (aRi hx);have dF:x≠n:=λ e=>by subst e;exact (List.Nodup.not_mem_erase hn) hx
    omega)
   rw [List.length_erase_of_mem hm] at κ;omega
  ·have:=bu l hn (λ x hx=>by
    have:=h x hx;have dF:x≠n:=λ e=>hm (by rw [← e];exact hx)
    omega)
   omega
section
variable {f:av} {a b c x y:ai} {d D:Int} {far:List Int} {ao:ai→Int}
theorem am1 (hf:f.a7=0) {l:List ai} (hn:l.Nodup) (ak:∀ x∈l,f.dV x=true):l.length≤f.places.length:=by
 have κ:(l.map f.at_).Nodup:=by
  have:∀ l:List ai,l.Nodup→(∀ x∈l,f.dV x=true)→(l.map f.at_).Nodup:=by
   intro l;induction l with
   | nil=>intro _ _;exact aP9
   | cons x r bu =>
    intro hn ak;rw [aPb] at hn;rw [aNF,aPb];refine ⟨λ hm=> ?_,bu hn.2 λ y aH=>ak y (aNe _ aH)⟩;obtain ⟨y,aH,e⟩:=aNn.1 hm;have:=av.Yi hf (ak y (aNe _ aH)) (ak x aNo) e;subst this;exact hn.1 aH
  exact this l hn ak
 have:=awL f.places.length _ κ (λ i hm=>by
  obtain ⟨y,aH,rfl⟩:=aNn.1 hm;exact (av.ya hf (ak y aH)).1)
 rwa [aNI] at this
abbrev lI (f:av) (a:ai):ai→Int→Prop:=l_.ma f.cD f.fk (λ s=>s=a)
abbrev qY (f:av) (a:ai):ai→Int→Prop:=l_.pZ f.cD f.fk (λ s=>s=a)
theorem lI.yS (r:lI f a x d):0≤d:=l_.ma.yS (av.UQ f) r
theorem lI.ground (ha:f.ground a=true) (r:lI f a x d):f.ground x=true:=by
 induction r with
 | start hs=>rw [hs];exact ha
 | step _ aH _=>exact (av.Ei.1 aH).2
theorem lI.n4 (r:lI f a x d) {e:Int} (q:lI f x y e):lI f a y (d+e):=by
 induction q with
 | start hs=>rw [hs,Int.add_zero];exact r
 | step _ aH bu=>rw [← Int.add_assoc];exact .step bu aH
theorem qY.pred (h:qY f a x d):(x=a∧d=0)∨∃ p e,qY f a p e∧x∈f.cD p∧d=e+f.fk x:=by
 obtain ⟨r,hm⟩:=h;cases r with
 | start hs=>exact .inl ⟨hs,rfl⟩
 | @step p _ e hp aH =>
  obtain ⟨e',he⟩:=l_.ma.acE (av.UQ f) hp;have κ:=he.2 _ hp;have τ:=hm _ (.step he.1 aH);have:e=e':=by omega
  subst this;exact .inr ⟨p,e,he,aH,Z⟩
theorem qY.chain (hf:f.a7=0) (ha:f.ground a=true):∀ (n:Nat) (x:ai) (d:Int),qY f a x d→d.toNat=n→∃ l:List ai,l.Nodup∧(∀ y∈l,f.dV y=true∧∃ e,qY f a y e∧e≤d)∧d+3≤3 * (l.length:Int):=by
 intro n;induction n using Nat.strongRecOn with
 | ind n bu =>
  intro x d h hn;have hx:=av.jr (lI.ground ha h.1);rcases h.pred with ⟨κ,τ⟩ | ⟨p,e,κ,τ,aq⟩
  ·refine ⟨[x],by simp,λ y aH=> ?_,by rw [τ];simp⟩;rw [aMZ.1 aH];exact ⟨hx,d,h,aOn _⟩
  ·have aj:=f.mY (c:=x);have he:=lI.yS κ.1;obtain ⟨l,dQ,iO,ad5⟩:=bu e.toNat (by omega) p e κ rfl;refine ⟨x::l,aPb.2 ⟨λ hm=> ?_,dQ⟩,λ y aH=> ?_,by rw [aM1];omega⟩
   ·obtain ⟨_,e',bb,bV⟩:=iO x hm;have:=bb.uniq h;omega
   ·rcases aNg.1 aH with rfl | aH
    ·exact ⟨hx,d,h,aOn _⟩
    ·obtain ⟨bb,e',bV,cy⟩:=iO y aH;exact ⟨bb,e',bV,by omega⟩
theorem qY.gR (hf:f.a7=0) (ha:f.ground a=true) (h:qY f a x d):d+3≤3 * (f.places.length:Int):=by
 obtain ⟨l,dQ,iO,ad5⟩:=h.chain hf ha _ x d rfl;have:=am1 hf dQ λ y aH=>(iO y aH).1;omega
def cellAt (f:av) (i:Nat):ai:=⟨(i:Int) % f.wide,(i:Int) / f.wide⟩
theorem amT (hf:f.a7=0) (hc:f.dV c=true):cellAt f (f.at_ c)=c:=by
 obtain ⟨_,_,a2,a3,a4,a5⟩:=av.idx hf hc;have h:=(av.ya hf hc).2;unfold cellAt;rw [h];have aR:(c.y * f.wide+c.x) % f.wide=c.x:=by rw [aQB,aPA,aQA a2 a3]
 have a1:(c.y * f.wide+c.x) / f.wide=c.y:=by rw [aQB,Int.add_mul_ediv_right _ _ (by omega),Int.ediv_eq_zero_of_lt a2 a3,Int.zero_add]
 rw [aR,a1]
theorem aqd (hf:f.a7=0) {g:ai→Int} (aU:∀ c,f.dV c=false→g c= -1):f.ao ((List.range f.places.length).map λ i=>g (cellAt f i)) c=g c:=by
 cases hc:f.dV c with
 | false=>rw [av.Dt hc,aU c hc]
 | true =>
  rw [av.FZ hc,aM0,aNt,aQk (av.ya hf hc).1];show g (cellAt f (f.at_ c))=g c;rw [amT hf hc]
theorem UU (hf:f.a7=0) (ha:f.ground a=true) (b:ai):∃ far,mN f a b far:=by
 let Q:ai→Int→Prop:=λ c d=>qY f a c d∧∀ D,qY f a b D→d+av.iZ b c≤D
 let g:ai→Int:=λ c=>@dite _ (∃ d,Q c d) (Classical.propDecidable _) (λ h=>h.choose) λ _=> -1
 have NL:∀ c d,Q c d→g c=d:=λ c d h=>by
  have hex:∃ d,Q c d:=⟨d,h⟩;show @dite _ (∃ d,Q c d) (Classical.propDecidable _) (λ h=>h.choose) (λ _=> -1)=d;rw [dif_pos hex];exact hex.choose_spec.1.uniq h.1
 have gn:∀ c,(¬ ∃ d,Q c d)→g c= -1:=λ c h=>by
  show @dite _ (∃ d,Q c d) (Classical.propDecidable _) (λ h=>h.choose) (λ _=> -1)= -1;rw [dif_neg h]
 have NI:∀ c,0≤g c→Q c (g c):=λ c h=>by
  by_cases hex:∃ d,Q c d
  ·obtain ⟨d,hd⟩:=hex;rw [NL c d hd];exact hd
  ·rw [gn c hex] at h;omega
 have go:∀ c,f.dV c=false→g c= -1:=λ c hc=>gn c λ ⟨d,hd⟩=>by
  have:=av.jr (lI.ground ha hd.1.1);rw [hc] at this;cases this
 have kE:∀ c,f.ao ((List.range f.places.length).map λ i=>g (cellAt f i)) c=g c:=λ c=>aqd hf go;refine ⟨(List.range f.places.length).map λ i=>g (cellAt f i),by rw [aNI,aRD],⟨λ c h=> ?_,λ c h=> ?_,λ c d hd hle=> ?_,λ c h=> ?_⟩,λ c=> ?_,λ c h=> ?_⟩
 ·rw [kE c] at h ⊢;by_cases hex:∃ d,Q c d
  ·obtain ⟨d,hd⟩:=hex;rw [NL c d hd] at h;have:=lI.yS hd.1.1;omega
  ·exact gn c hex
 ·rw [kE c] at h ⊢;exact NI c h
 ·rw [kE c];exact NL c d ⟨hd,hle⟩
 ·rw [kE c] at h ⊢;have I:=NI c h;rcases I.1.pred with κ | ⟨p,e,κ,τ,aq⟩
  ·exact .inl κ
  ·right;have he:=av.Nn b (av.Ei.1 τ).1;have aj:=f.mY (c:=c);have hp:g p=e:=NL p e ⟨κ,λ D mT=>by have:=I.2 D mT;omega⟩;exact ⟨p,by rw [kE p,hp];exact lI.yS κ.1,τ,by rw [kE p,hp];exact aq⟩
 ·rw [kE c];by_cases h:0≤g c
  ·have:=(NI c h).1.gR hf ha;omega
  ·omega
 ·rw [kE c] at h;exact lI.ground ha (NI c h).1.1
theorem Sk (hf:f.a7=0) (ha:f.ground a=true):l_.Spec f.cD f.fk (av.iZ b) (λ s=>s=a) b (cE f a b):=by
 obtain ⟨far,h⟩:=UU hf ha b;rw [← h.Ds];exact h.spec
theorem I3 (hf:f.a7=0) (ha:f.ground a=true) (h:0≤cE f a b c):qY f a c (cE f a b c):=((Sk hf ha).nK c h).1
theorem aaG (hf:f.a7=0) (ha:f.ground a=true) (h:qY f a b d):cE f a b b=d:=(Sk hf ha).end_ (av.Sa b) h
theorem aqc (hf:f.a7=0) (ha:f.ground a=true) (h:lI f a b d):0≤cE f a b b∧cE f a b b≤d:=by
 obtain ⟨e,he⟩:=l_.ma.acE (av.UQ f) h;rw [aaG hf ha he];exact ⟨lI.yS he.1,he.2 _ h⟩
theorem I4 (hf:f.a7=0) (ha:f.ground a=true) (h:0≤cE f a b b):nC f a (cE f a b):=by
 obtain ⟨far,hp⟩:=UU hf ha b;exact nC.afj hp h
theorem aBe (h:nC f a ao):∀ (n:Nat) (c:ai),0≤ao c→(ao c).toNat=n→∀ x∈fb f ao a c,0≤ao x∧ao x≤ao c∧f.ground x=true:=by
 intro n;induction n using Nat.strongRecOn with
 | ind n bu =>
  intro c hc hn x hx;by_cases e:c=a
  ·subst e;rw [AS h] at hx;rw [aMZ.1 hx];exact ⟨hc,aOn _,h.gr _ hc⟩
  ·obtain ⟨nX,nc,mz,yU⟩:=h.prev hc e;have aj:=f.mY (c:=c);rw [AT h hc e] at hx;rcases aNg.1 hx with rfl | hx
   ·exact ⟨hc,aOn _,h.gr _ hc⟩
   ·obtain ⟨lu,nZ,Ep⟩:=bu _ (by omega) _ mz rfl x hx;exact ⟨lu,by omega,Ep⟩
theorem Ns (he:eI f a b=0):f.a7=0∧f.ground a=true∧f.ground b=true∧0≤cE f a b b∧iA f a b=cE f a b b∧cR f a b=(fb f (cE f a b) a b).reverse:=by
 rcases Sd f a b with ⟨κ,τ⟩ | ⟨κ,τ,aq⟩ | ⟨κ,τ,aq,bb⟩ | ⟨κ,τ,aq,bb | bb⟩
 ·rw [τ] at he;exact absurd he κ
 ·rw [aq] at he;exact absurd he τ
 ·rw [bb] at he;cases he
 ·rw [bb.2] at he;cases he
 ·refine ⟨κ,τ,aq,bb.1, ?_, ?_⟩
  ·unfold iA;rw [aNd he]
  ·unfold cR;rw [aNd he]
end
end
def aIY:List a8:= [⟨1,0,1,⟨2,0⟩,10,0⟩]
def aIX:List dU:= [⟨1,⟨2,0⟩⟩]
section
variable {i:Nat} {t:a8}
def CM (s t:a8):Prop:=s.id<t.id∧s.spot≠t.spot
theorem SD {α:Type} [Inhabited α] {l:List α} {t:α} (h:l[i]? =some t):l.getD i default=t:=by rw [aM0,h];rfl
theorem Good.aty {W:ae} (ar:Good W) {j:Nat} {s:a8} (kY:i<j) (hs:W.ah[i]? =some s) (aD:W.ah[j]? =some t):s.id<t.id:=by
 induction j generalizing t with
 | zero=>omega
 | succ j bu =>
  have aw:=(aM2.1 aD).1;obtain ⟨u,hu⟩:=jq (l:=W.ah) (i:=j) (by omega);have κ:=(ar.ids (j+1) t aD).1;have τ:W.jc (j+1)=u.id:=by
   unfold ae.jc;rw [aM4 (by omega),aQr,SD hu]
  rcases aPN.1 kY with h | rfl
  ·have:=bu h hu;omega
  ·rw [hs] at hu;injection hu with hu;subst hu;omega
theorem Good.G0 {W:ae} (ar:Good W):W.ah.Pairwise CM:=by
 rw [aNS];intro i j ak aw kY;have hs:=aM3 ak;have aD:=aM3 aw;refine ⟨ar.aty kY hs aD,λ e=> ?_⟩;have κ:=ar.iE j _ aD;rw [← e] at κ;have:(W.iE j).contains (W.ah[i]).spot=true:=by
  rw [aPm];unfold ae.iE;exact aNn.2 ⟨_,aPk.2 ⟨i,by rw [aNK,aNd kY,hs]⟩,Z⟩
 rw [this] at κ;exact nomatch κ
theorem Good.each {W:ae} (ar:Good W) (aD:t∈W.ah):0<t.id∧t.id<W.next∧Mi W.field W.bj.length t:=by
 obtain ⟨i,ak⟩:=aPk.1 aD;have κ:=ar.ids i t ak;exact ⟨by omega,κ.2.1,ar.ah i t ak⟩
theorem Good.afk {W V:ae} (ar:Good W) (hf:V.field=W.field) (af:V.bj=W.bj) (hs:V.bh=W.bh) (hm:V.bY=W.bY) (hn:V.next=W.next) (bk:0≤V.now∧V.now≤1000000) (ay:V.ah.length≤100) (bL:V.ah.Pairwise CM)
  (ep:∀ t∈V.ah,0<t.id∧t.id<V.next∧Mi V.field V.bj.length t):Good V where
 field:=by rw [hf];exact ar.field
 gX:=by rw [af];exact ar.gX
 dD:=ay
 sl:=by rw [hs,af];exact ar.sl
 bj:=by rw [af,hf];exact ar.bj
 bh:=by rw [hs];exact ar.bh
 Ej:=by rw [hm,hf];exact ar.Ej
 bY:=by rw [hm,hf];exact ar.bY
 ah:=λ i t aD=>(ep t (aNN aD)).2.2
 ids:=λ i t aD=>by
  have κ:=ep t (aNN aD);unfold ae.jc;split
  ·exact ⟨κ.1,κ.2.1,aOn _⟩
  ·rename_i aC
   have ak:=(aM2.1 aD).1;obtain ⟨u,hu⟩:=jq (l:=V.ah) (i:=i - 1) (by omega);rw [SD hu];have τ:=ep u (aNN hu);have aq:=(aNS.1 bL) (i - 1) i (by omega) ak (by omega);have aR:V.ah[i - 1]'(by omega)=u:=(aM2.1 hu).2;have a1:V.ah[i]=t:=(aM2.1 aD).2;rw [aR,a1] at aq;exact ⟨aq.1,κ.2.1,by omega⟩
 iE:=λ i t aD=>by
  rw [aRG];intro hc;rw [aPm] at hc;unfold ae.iE at hc;obtain ⟨s,gh,iN⟩:=aNn.1 hc;obtain ⟨j,aw⟩:=aPk.1 gh;rw [aNK] at aw;split at aw
  ·rename_i fi
   have ak:=(aM2.1 aD).1;have aq:=(aNS.1 bL) j i (by omega) ak fi;have aR:V.ah[j]'(by omega)=s:=(aM2.1 aw).2;have a1:V.ah[i]=t:=(aM2.1 aD).2;rw [aR,a1] at aq;exact aq.2 iN
  ·exact nomatch aw
 next:=by rw [hn];exact ar.next
 now:=bk
end
def agO (l:List a8) (x:Int):Option a8:=l.find? λ t=>t.id == x
def aLp (l:List a8) (x:Int):Value:= .tuple #[.agg ((agO l x).getD default).cells.toArray, .bool (agO l x).isSome]
def KJ (l:List Int):Bool:=(List.range (l.length - 1)).all λ i=> !decide (l.getD (i+1) 0<l.getD i 0)
theorem azA {l:List Int} (h:∀ i,i+1<l.length→¬ l.getD (i+1) 0<l.getD i 0):KJ l=true:=by
 unfold KJ;rw [aNJ];intro i ak;have:=h i (by have:=aND.1 ak;omega);simpa using this
def aK7 {α:Type} (l:List α) (k:Nat):List α:=l.mapIdx λ i x=>if i<k∨l.length - k≤i then (l[l.length - 1 - i]?).getD x else x
section
variable {l:List eN}
def An (W:ae) (l:List eN):List a8:=(List.range W.ah.length).map (wC W.ah (fK W l))
structure Ik (W:ae) (l:List eN):Prop where
 hg:Good W
 b8:uv W l= {W with ah:=(An W l).filter λ t=>decide (0<t.df)}
 ar:yY W l=((An W l).filter λ t=> !decide (0<t.df)).map a8.id
 arj:∀ k,0≤(fK W l).getD k 0
 ay:(fK W l).length=W.ah.length
theorem agM {W:ae} (h:lL W l=0):Ik W l :=
 ⟨Good.um (Rj h).1,(Po h rfl).1,(Po h rfl).2,λ k=>((Tk h).2 k).1,(Tk h).1⟩
theorem Oh (W:ae) (l:List eN):(An W l).length=W.ah.length:=by simp [An]
theorem Og {W:ae} {k:Nat} {t:a8} (h:W.ah[k]? =some t):(An W l)[k]? =some {t with df:=t.df - (fK W l).getD k 0}:=by
 have aj:=(aM2.1 h).1;unfold An;rw [aNt,aQk aj,aOH];unfold wC;rw [SD h]
theorem ate {W:ae} {x:a8} (h:x∈An W l):∃ (k:Nat) (t:a8),W.ah[k]? =some t∧x= {t with df:=t.df - (fK W l).getD k 0}:=by
 obtain ⟨k,aj⟩:=aPk.1 h;have bB:=(aM2.1 aj).1;rw [Oh] at bB;obtain ⟨t,aD⟩:=jq bB;rw [Og aD] at aj;injection aj with aj
 exact ⟨k,t,aD,aj.symm⟩
theorem Ik.G0 {W:ae} (h:Ik W l):(An W l).Pairwise CM:=by
 rw [aNS];intro i j ak aw kY;rw [Oh] at ak aw;obtain ⟨s,hs⟩:=jq ak;obtain ⟨t,aD⟩:=jq aw;have aR:=(aM2.1 (Og (l:=l) hs)).2;have a1:=(aM2.1 (Og (l:=l) aD)).2;rw [aR,a1];have:=(aNS.1 h.hg.G0) i j ak aw kY;rw [(aM2.1 hs).2,(aM2.1 aD).2] at this;exact this
theorem Ik.right {W:ae} (h:Ik W l):Good (uv W l):=by
 rw [h.b8];refine Good.afk h.hg Z Z Z Z Z h.hg.now ?_ (h.G0.filter _) λ t aD=> ?_
 ·exact aNm (aOw _ _) (by rw [Oh];exact h.hg.dD)
 ·obtain ⟨aD,hp⟩:=aOk.1 aD;obtain ⟨k,s,hs,rfl⟩:=ate aD;have κ:=h.hg.each (aNN hs);have τ:=h.arj k;have aq:=aNY hp;refine ⟨κ.1,κ.2.1,⟨κ.2.2.kind,κ.2.2.owner,κ.2.2.ground, ?_,κ.2.2.load⟩⟩;have bb:=κ.2.2.df;show 1≤s.df - _∧s.df - _≤ae.hj s.kind;have bV:0<s.df - (fK W l).getD k 0:=aq;omega
theorem azz {l:List Int} (h:l.Pairwise (· < ·)):KJ l=true:=by
 refine azA λ i ak=> ?_;have:=(aNS.1 h) i (i+1) (by omega) ak (by omega);rw [aM0,aM0,aM3 ak,aM3 (by omega:i<l.length)];show ¬ l[i+1]<l[i];omega
end
section
section
variable {f:av} {a b c x y:ai} {d D:Int}
theorem axR (hf:f.a7=0) (ha:f.ground a=true) (Gg:0≤cE f a b c) (abA:0≤cE f a x c):kK f (cE f a b) c=kK f (cE f a x) c:=by
 have key:∀ t n,n∈dH c→0≤cE f a t c→((f.ground n && decide (0≤cE f a t n) && decide (cE f a t n+f.fk c=cE f a t c))=true↔∃ e,qY f a n e∧qY f a c (e+f.fk c)):=by
  intro t n hn aD;have hs:=Sk (b:=t) hf ha;have abH:=I3 hf ha aD;constructor
  ·intro h;simp only [aNa,aM8] at h;exact ⟨_,I3 hf ha h.1.2,by rw [h.2];exact abH⟩
  ·rintro ⟨e,κ,τ⟩;have he:=abH.uniq τ;have Gs:cE f a t n=e:=hs.known n e κ λ D mT=>by
    have:=(hs.nK c aD).2 D mT;have aq:=av.Nn t (av.G7 hn);have aj:=f.mY (c:=c);omega
   rw [Gs,lI.ground ha κ.1,aNp (lI.yS κ.1),aNp he.symm];rfl
 unfold kK;congr 1;apply find_congr;intro n hn;rw [aQO,key b n hn Gg,key x n hn abA]
where
 find_congr {p q:ai→Bool}:∀ {l:List ai},(∀ n∈l,p n=q n)→l.find? p=l.find? q
  | [],_=>rfl
  | n::l,h=>by
   rw [List.find?_cons,List.find?_cons,h n aNo,find_congr λ m hm=>h m (aNe _ hm)]
theorem aBf (hf:f.a7=0) (ha:f.ground a=true) (af:0≤cE f a b b) (hx:0≤cE f a x x):∀ (n:Nat) (c:ai),0≤cE f a b c→0≤cE f a x c→(cE f a b c).toNat=n→fb f (cE f a b) a c=fb f (cE f a x) a c:=by
 have Qr:=I4 hf ha af;have Qs:=I4 hf ha hx;intro n;induction n using Nat.strongRecOn with
 | ind n bu =>
  intro c κ τ hn;by_cases e:c=a
  ·subst e;rw [AS Qr,AS Qs]
  ·have hp:=axR (b:=b) (x:=x) hf ha κ τ;obtain ⟨nX,nc,mz,yU⟩:=Qr.prev κ e;obtain ⟨lu,nZ,Ep,O6⟩:=Qs.prev τ e;have aj:=f.mY (c:=c);rw [AT Qr κ e,AT Qs τ e,← hp];congr 1;exact bu _ (by omega) _ mz (by rw [hp];exact Ep) Z
theorem aBg {ao:ai→Int} (h:nC f a ao):∀ (n:Nat) (c:ai),0≤ao c→(ao c).toNat=n→∀ i,(ak:i<(fb f ao a c).length)→(fb f ao a c).drop i=fb f ao a ((fb f ao a c)[i])∧lI f ((fb f ao a c)[i]) c (ao c - ao ((fb f ao a c)[i])):=by
 intro n;induction n using Nat.strongRecOn with
 | ind n bu =>
  intro c hc hn i ak;by_cases e:c=a
  ·subst e;rw [AS h] at ak;have:i=0:=by simpa using ak
   subst this;simp only [AS h,aQW,aRc];exact ⟨by first | trivial | rfl,by rw [aQz];exact .start rfl⟩
  ·have ja:=AT h hc e;obtain ⟨nX,nc,mz,yU⟩:=h.prev hc e;have aj:=f.mY (c:=c);cases i with
   | zero =>
    have e0:(fb f ao a c)[0]=c:=by simp only [ja,aRc]
    rw [e0,aQW,aQz];exact ⟨Z, .start Z⟩
   | succ i =>
    have Jz:i<(fb f ao a (kK f ao c)).length:=by rw [ja] at ak;simpa using ak
    obtain ⟨dv,ey⟩:=bu _ (by omega) _ mz rfl i Jz;have aR:(fb f ao a c)[i+1]=(fb f ao a (kK f ao c))[i]:=by simp only [ja,List.getElem_cons_succ]
    rw [aR];refine ⟨by rw [← dv,ja,aRr], ?_⟩;have r:lI f _ c (ao (kK f ao c) - ao ((fb f ao a (kK f ao c))[i])+f.fk c):= .step ey (av.Ei.2 ⟨av.G7 nX,h.gr c hc⟩);rw [show ao c - ao ((fb f ao a (kK f ao c))[i])=ao (kK f ao c) - ao ((fb f ao a (kK f ao c))[i])+f.fk c by omega];exact r
theorem aBk (he:eI f a b=0) {n:Nat} (hn:n<(cR f a b).length) {x:ai} (hx:(cR f a b).getD n default=x):eI f a x=0∧eI f x b=0∧cR f a x=(cR f a b).take (n+1)∧iA f a x+iA f x b=iA f a b:=by
 obtain ⟨hf,ha,af,aC,aj,hp⟩:=Ns he;have F:=I4 hf ha aC;have ay:(cR f a b).length=(fb f (cE f a b) a b).length:=by rw [hp,aON]
 have ak:(fb f (cE f a b) a b).length - 1 - n<(fb f (cE f a b) a b).length:=by omega
 obtain ⟨s1,s2⟩:=aBg F _ b aC rfl _ ak;have ex:(fb f (cE f a b) a b)[(fb f (cE f a b) a b).length - 1 - n]=x:=by
  rw [oz hn] at hx;rw [← hx];simp only [hp,aRo]
 rw [ex] at s1 s2;have JS:x∈fb f (cE f a b) a b:=by rw [← ex];exact aOg ak
 obtain ⟨fo,fU,iq⟩:=aBe F _ b aC rfl x JS;have abI:=I3 hf ha fo;have aR:=aaG hf ha abI;have jO:0≤cE f a x x:=by rw [aR];exact fo
 have Aj:=Nt hf ha iq jO;have r2:=aqc hf iq s2;have acv:=Nt hf iq af r2.1;refine ⟨Aj,acv, ?_, ?_⟩
 ·have Od:cR f a x=(fb f (cE f a x) a x).reverse:=by unfold cR;rw [aNd Aj]
  rw [Od,← aBf hf ha aC jO _ x fo jO rfl,← s1,hp,List.reverse_drop,ay.symm.trans ay];congr 1;have:(fb f (cE f a b) a b).reverse.length=(fb f (cE f a b) a b).length:=aON;omega
 ·have dv:iA f a x=cE f a x x:=by unfold iA;rw [aNd Aj]
  have ey:iA f x b=cE f x b b:=by unfold iA;rw [aNd acv]
  rw [dv,ey,aj,aR];have aq:=(I3 hf ha aC).2 _ (lI.n4 abI.1 (I3 hf iq r2.1).1);omega
end
end
section
variable {f:av} {l:List dU} {k:Nat} {c a:ai} {t:a8}
theorem agJ {T:List a8} (h:step1 f l T k=some c):
  0≤eo l (T.getD k default).id∧eI f (T.getD k default).spot (l.getD (eo l (T.getD k default).id).toNat default).bg=0∧2≤(cR f (T.getD k default).spot (l.getD (eo l (T.getD k default).id).toNat default).bg).length∧
  c=(cR f (T.getD k default).spot (l.getD (eo l (T.getD k default).id).toNat default).bg).getD 1 default∧ig T c≤0:=by
 unfold step1 at h;split at h
 ·exact nomatch h
 ·split at h
  ·exact nomatch h
  ·split at h
   ·exact nomatch h
   ·split at h
    ·exact nomatch h
    ·rename_i κ τ aq bb
     injection h with h
     subst h;exact ⟨by omega,by simpa using τ,by omega,rfl,by omega⟩
theorem ahD {ao:ai→Int} (h:nC f a ao) (hc:0≤ao c):∃ r,fb f ao a c=c::r∧(r= []↔c=a):=by
 by_cases e:c=a
 ·subst e;exact ⟨[],AS h,by simp⟩
 ·obtain ⟨nX,nc,mz,yU⟩:=h.prev hc e;refine ⟨_,AT h hc e,⟨λ hr=> ?_,λ h=>absurd h e⟩⟩;by_cases a1:kK f ao c=a
  ·rw [a1,AS h] at hr;exact nomatch hr
  ·rw [AT h mz a1] at hr;exact nomatch hr
theorem ahE {b x:ai} (he:eI f a b=0) (hn:2≤(cR f a b).length) (hx:(cR f a b).getD 1 default=x):
  eI f a x=0∧eI f x b=0∧iA f a x+iA f x b=iA f a b∧a∈dH x∧f.ground x=true∧x≠a∧cR f a x= [a,x]:=by
 obtain ⟨κ,τ,aq,bb⟩:=aBk he (n:=1) (by omega) hx;obtain ⟨hf,ha,af,aC,aj,hp⟩:=Ns he;obtain ⟨_,_,aqI,jO,_,Od⟩:=Ns κ;have LG:=I4 hf ha jO;have ay:(cR f a x).length=2:=by rw [aq,aM9];omega
 rw [Od,aON] at ay;have T9:x≠a:=by
  intro e;obtain ⟨r,aR,a1⟩:=ahD LG jO;rw [aR,a1.2 e] at ay;simp at ay
 have ja:=AT LG jO T9;obtain ⟨nX,nc,mz,yU⟩:=LG.prev jO T9;obtain ⟨r,aR,a1⟩:=ahD LG mz;rw [ja,aR] at ay;have hr:r= []:=aNv (by simpa using ay);have acg:=a1.1 hr;refine ⟨κ,τ,bb,by rw [← acg];exact nX,aqI,T9, ?_⟩;rw [Od,ja,aR,hr,acg];rfl
theorem azr {T:List a8} (bL:T.Pairwise CM) (aj:k<T.length) (hc:ig T c≤0):(T.set k ((T.getD k default).bg c)).Pairwise CM:=by
 have ju:∀ t∈T,t.spot≠c:=λ t aD e=>by have:=aw3.2 ⟨t,aD,e⟩;omega
 have abL:T.getD k default=T[k]:=by rw [aM0,aM3 aj];rfl
 rw [aNS] at bL ⊢;intro i j ak aw kY;rw [aNj] at ak aw;have h:=bL i j ak aw kY;rw [List.getElem_set,List.getElem_set];split<;>split
 ·omega
 ·rename_i aR a1
  subst aR;exact ⟨by have zW:=aOP a8.id abL;have pk:=h.1;show (T.getD k default).id<_;omega,λ e=>ju _ (aOg aw) e.symm⟩
 ·rename_i aR a1
  subst a1;exact ⟨by have zW:=aOP a8.id abL;have pk:=h.1;show _<(T.getD k default).id;omega,ju _ (aOg ak)⟩
 ·exact h
theorem agI {f:av} {l:List dU} {T:List a8} {Q:a8→Prop} (eJ:∀ t c,Q t→f.ground c=true→Q (t.bg c)) (bL:T.Pairwise CM) (aX:∀ t∈T,Q t):∀ k,k≤T.length→(iF f l T k).1.Pairwise CM∧∀ t∈(iF f l T k).1,Q t
 | 0,_=>⟨bL,aX⟩
 | k+1,aj=>by
  obtain ⟨acA,Ua⟩:=agI (l:=l) eJ bL aX k (by omega);have ay:=(KM (f:=f) (l:=l) (T:=T) k).1;cases hs:step1 f l (iF f l T k).1 k with
  | none=>rw [G8 rfl hs];exact ⟨acA,Ua⟩
  | some c =>
   rw [G9 rfl hs];obtain ⟨d1,d2,d3,d4,d5⟩:=agJ hs;obtain ⟨_,_,_,_,g,_⟩:=ahE d2 d3 d4.symm;refine ⟨azr acA (by omega) d5,λ t aD=> ?_⟩;rcases aOG aD with aD | rfl
   ·exact Ua t aD
   ·exact eJ _ _ (Ua _ (mr (by omega))) g
noncomputable def Ek (f:av) (l:List dU) (T:List a8) (i:Nat):Option ai:=step1 f l (iF f l T i).1 i
theorem aAa {T:List a8} (h:k<T.length):(T.set k t).getD k default=t:=by rw [aM0,aNL h];rfl
theorem az9 {T:List a8} {i:Nat} (h:k≠i):(T.set k t).getD i default=T.getD i default:=by rw [aM0,aN4 h,aM0]
theorem Pk {f:av} {l:List dU} {T:List a8}:∀ k,k≤T.length→∀ i,i<T.length→(iF f l T k).1.getD i default=if i<k then (match Ek f l T i with | some c=>(T.getD i default).bg c | none=>T.getD i default) else T.getD i default
 | 0,_,i,ak=>by rw [aM4 (by omega)];rfl
 | k+1,aj,i,ak=>by
  have bu:=Pk (f:=f) (l:=l) (T:=T) k (by omega);have ay:=(KM (f:=f) (l:=l) (T:=T) k).1;have nN:=bu k (by omega);rw [aM4 (by omega)] at nN;cases hs:Ek f l T k with
  | none =>
   rw [G8 rfl hs,bu i ak];by_cases e:i=k
   ·subst e;rw [aM4 (by omega),aNd (by omega),hs]
   ·by_cases a1:i<k
    ·rw [aNd a1,aNd (by omega)]
    ·rw [aM4 a1,aM4 (by omega)]
  | some c =>
   rw [G9 rfl hs];by_cases e:i=k
   ·subst e;rw [aAa (by omega),aNd (by omega),hs,nN]
   ·rw [az9 (λ h=>e h.symm),bu i ak];by_cases a1:i<k
    ·rw [aNd a1,aNd (by omega)]
    ·rw [aM4 a1,aM4 (by omega)]
theorem agH {f:av} {l:List dU} {T:List a8}:∀ k,k≤T.length→(iF f l T k).2=((List.range k).filter λ i=>(Ek f l T i).isSome).map λ i=>(T.getD i default).id
 | 0,_=>rfl
 | k+1,aj=>by
  have bu:=agH (f:=f) (l:=l) (T:=T) k (by omega);have nN:=Pk (f:=f) (l:=l) (T:=T) k (by omega) k (by omega);rw [aM4 (by omega)] at nN;rw [aOb,aN0,aNx,aN7];cases hs:Ek f l T k with
  | none=>rw [G8 rfl hs,bu];simp
  | some c=>rw [G9 rfl hs,bu,nN];simp
theorem av2 {W:ae} (h:qC W l=0):W.a7=0∧oR W l=(W.k2 l).1∧rL W l=(W.k2 l).2:=by
 have hc:W.a7=0:=by
  apply aPI;intro hn;rw [(aeW (l:=l) hn).1] at h;exact hn h
 by_cases ay:(l.length:Int)≤200
 ·have:=Km (l:=l) hc ay;exact ⟨hc,this.2⟩
 ·rw [(aeX (l:=l) hc (by omega)).1] at h;exact nomatch h
theorem av1 {W:ae} (h:qC W l=0):
  Good (oR W l)∧(oR W l).ah.length=W.ah.length∧KJ (rL W l)=true∧oR W l= {W with ah:=(oR W l).ah}∧
  ∀ k,k<W.ah.length→((rL W l).any (λ y=>(W.ah.getD k default).id == y)=false∧(oR W l).ah.getD k default=W.ah.getD k default)∨
   ∃ c:ai,(rL W l).any (λ y=>(W.ah.getD k default).id == y)=true∧(oR W l).ah.getD k default=(W.ah.getD k default).bg c∧0≤eo l (W.ah.getD k default).id∧
    eI W.field (W.ah.getD k default).spot (l.getD (eo l (W.ah.getD k default).id).toNat default).bg=0∧eI W.field c (l.getD (eo l (W.ah.getD k default).id).toNat default).bg=0∧eI W.field (W.ah.getD k default).spot c=0∧
    iA W.field (W.ah.getD k default).spot (l.getD (eo l (W.ah.getD k default).id).toNat default).bg=iA W.field c (l.getD (eo l (W.ah.getD k default).id).toNat default).bg+iA W.field (W.ah.getD k default).spot c∧
    (W.ah.getD k default).spot∈dH c:=by
 obtain ⟨hc,apC,apB⟩:=av2 h;have ar:=Good.um hc;rw [apC,apB];have ep:=agI (f:=W.field) (l:=l) (T:=W.ah) (Q:=λ t=>0<t.id∧t.id<W.next∧Mi W.field W.bj.length t)
  (λ t c I aU=>⟨I.1,I.2.1,⟨I.2.2.kind,I.2.2.owner,aU,I.2.2.df,I.2.2.load⟩⟩) ar.G0 (λ t aD=>ar.each aD) W.ah.length (aNk _)
 have hlen:=agL W l;have oA:=agH (f:=W.field) (l:=l) (T:=W.ah) W.ah.length (aNk _);have Gv:=ar.G0;refine ⟨Good.afk ar Z Z Z Z Z ar.now (by rw [hlen];exact ar.dD) ep.1 ep.2,hlen, ?_,Z,λ k aj=> ?_⟩
 ·show KJ (iF W.field l W.ah W.ah.length).2=true;rw [oA];refine azz ?_;rw [List.pairwise_map];have hr:((List.range W.ah.length).filter λ i=>(Ek W.field l W.ah i).isSome).Pairwise (· < ·):=List.Pairwise.filter _ List.pairwise_lt_range;refine List.Pairwise.imp_of_mem (fun {i j} ak aw kY=> ?_) hr;have ak:=aND.1 (aOk.1 ak).1;have aw:=aND.1 (aOk.1 aw).1;rw [oz ak,oz aw];exact ((aNS.1 Gv) i j ak aw kY).1
 ·have gu:=Pk (f:=W.field) (l:=l) (T:=W.ah) W.ah.length (aNk _) k aj;rw [aNd aj] at gu;have nN:=Pk (f:=W.field) (l:=l) (T:=W.ah) k (by omega) k aj;rw [aM4 (by omega)] at nN;have oE:((W.k2 l).2).any (λ y=>(W.ah.getD k default).id == y)=(Ek W.field l W.ah k).isSome:=by
   show (iF W.field l W.ah W.ah.length).2.any _=_;rw [oA,aQO,aOh];constructor
   ·rintro ⟨y,aH,e⟩;obtain ⟨i,ak,rfl⟩:=aNn.1 aH;obtain ⟨Al,DL⟩:=aOk.1 ak;have Al:=aND.1 Al;have e:(W.ah.getD k default).id=(W.ah.getD i default).id:=by simpa using e
    have:i=k:=by
     rw [oz aj,oz Al] at e;rcases Nat.lt_trichotomy i k with q | q | q
     ·have:=((aNS.1 Gv) i k Al aj q).1;omega
     ·exact q
     ·have:=((aNS.1 Gv) k i aj Al q).1;omega
    rw [← this];exact DL
   ·intro hs;exact ⟨_,aNn.2 ⟨k,aOk.2 ⟨aND.2 aj,hs⟩,Z⟩,by simp⟩
  cases hs:Ek W.field l W.ah k with
  | none =>
   rw [hs] at gu oE;exact .inl ⟨oE,gu⟩
  | some c =>
   rw [hs] at gu oE;obtain ⟨d1,d2,d3,d4,d5⟩:=agJ hs;rw [nN] at d1 d2 d3 d4;obtain ⟨f1,f2,f3,f4,f5,f6,f7⟩:=ahE d2 d3 d4.symm;exact .inr ⟨c,oE,gu,d1,d2,f2,f1,by omega,f4⟩
end
structure bC where
 by_:Int
 kind:Int
 bf:Int
 spot:ai
 what:Int
 deriving DecidableEq,Inhabited
namespace bC
def cells (a:bC):List Value:= [.int .i64 (a.by_), .int .i64 (a.kind), .int .i64 (a.bf), .int .i64 (a.spot.x), .int .i64 (a.spot.y), .int .i64 (a.what)]
def ok (a:bC):Prop:=(Lit.int .i64 a.by_).wf=true∧(Lit.int .i64 a.kind).wf=true∧(Lit.int .i64 a.bf).wf=true∧(Lit.int .i64 a.spot.x).wf=true∧(Lit.int .i64 a.spot.y).wf=true∧(Lit.int .i64 a.what).wf=true
def raw (j:Nat) (u:Value):Prop:=match j with
 | 0 | 1 | 2 | 3 | 4 | 5=>∃ n:Int,u= .int .i64 n
 | _=>True
theorem sv (a:bC):∀ (j:Nat) u,a.cells[j]? =some u→raw j u:=by
 intro j u hu
 match j,hu with
 | 0,hu | 1,hu | 2,hu | 3,hu | 4,hu | 5,hu=>exact ⟨_,(aNf hu).symm⟩
 | j+6,hu=>exact trivial
theorem su (a:bC):∀ u∈a.cells,u.oneCell'=true:=by
 intro u hu;unfold cells at hu;simp only [aNg,aOx,aPi] at hu;rcases hu with rfl | rfl | rfl | rfl | rfl | rfl<;>rfl
def rep:Φ bC:=Φ.flat 6 cells ok raw (λ _=>rfl) su sv
def zero:Value:= .agg #[.int .i64 0, .int .i64 0, .int .i64 0, .int .i64 0, .int .i64 0, .int .i64 0]
theorem k6:∀ (j:Nat) u,zero.cells[j]? =some u→rep.raw j u:=by
 intro j u hu;have hu:(#[(.int .i64 0:Value),(.int .i64 0:Value),(.int .i64 0:Value),(.int .i64 0:Value),(.int .i64 0:Value),(.int .i64 0:Value)]:Array Value)[j]? =some u:=hu
 match j,hu with
 | 0,hu | 1,hu | 2,hu | 3,hu | 4,hu | 5,hu=>exact ⟨_,(aNf hu).symm⟩
 | j+6,hu=>cases hu
theorem info:(prog.info? 110).map (λ i=>(i.zero,i.size,i.bytes))=some (some zero,6,48):=by kernel_rfl
theorem Q' {by_:Nat} {w:World} {A:Option Addr} {c:Nat} {l:List bC} (h:rep.aQ by_ w A c l):∀ a∈l,a.ok:=Φ.aQ.Im (R:=rep) (Q:=ok) (fun {w cs a} (h:rep.has w cs a)=>(show cs=a.cells∧a.ok from h).2) h
def sh:hB:=(.cons (.int .i64) (.cons (.int .i64) (.cons (.int .i64) (.cons (.cons (.int .i64) (.cons (.int .i64) .nil)) (.cons (.int .i64) .nil)))))
end bC
section
variable {o:bC} {l:List bC}
theorem akS:Qq prog bC.cells 110 :=by
 intro a b w;obtain ⟨a0,di,a2,⟨a3,a4⟩,a5⟩:=a;obtain ⟨yb,q7,fe,⟨gJ,C_⟩,Mv⟩:=b;simp only [bC.cells,bC.mk.injEq,ai.mk.injEq];constructor
 ·go_simp
  repeat' split
  all_goals simp_all
 ·go_simp
  repeat' split
  all_goals simp_all
theorem akR:(prog).eqGuardType (prog).depth 110 =false:=by kernel_rfl
theorem abC {w:World} {cs:List Value} {a:bC} (h:bC.rep.has w cs a):cs=a.cells:=aPs (show cs=a.cells∧a.ok from h)
def bC.bare (o:bC):bC:=⟨o.by_,o.kind,if o.kind=5 then 0 else o.bf,if o.kind≠2∧o.kind≠3 then ⟨0,0⟩ else o.spot,if o.kind≠1∧o.kind≠5 then 0 else o.what⟩
def bC.O0 (o:bC):Bool:= !cM o.by_ 0 7 || !cM o.kind 1 5 || !cM o.bf 0 1000000 || !cM o.spot.x (-1000) 1000 || !cM o.spot.y (-1000) 1000 || !cM o.what 0 1000000
def bC.a7 (o:bC):Int:=if o.O0=true then 1 else if (!decide (o.bare=o))=true then 4 else 0
theorem bC.am7 (h:o.O0=true):o.a7=1:=by unfold bC.a7;rw [aNd h]
theorem bC.am9 (h:o.O0=false) (τ:(!decide (o.bare=o))=true):o.a7=4:=by unfold bC.a7;rw [aM4 (by rw [h];decide),aNd τ]
theorem bC.ana (h:o.O0=false) (τ:(!decide (o.bare=o))=false):o.a7=0:=by unfold bC.a7;rw [aM4 (by rw [h];decide),aM4 (by rw [τ];decide)]
def nW (l:List bC):Int:=if 100<l.length then 2 else match l.find? (λ o=>o.a7 != 0) with | some o=>o.a7 | none=>0
theorem axh (h:100<l.length):nW l=2:=by unfold nW;rw [aNd h]
theorem axi (h:l.length≤100) (aU:∀ i,i<l.length→(l.getD i default).a7=0):nW l=0:=by
 unfold nW;rw [aM4 (by omega)];have:l.find? (λ o=>o.a7 != 0)=none:=aOl.2 λ x hx=>by
  obtain ⟨i,ak,rfl⟩:=aNZ.1 hx;have:=aU i ak;rw [oz ak] at this;simp [this]
 rw [this]
theorem axg {k:Nat} (h:l.length≤100) (aj:k<l.length) (aU:∀ i,i<k→(l.getD i default).a7=0) (af:¬ (l.getD k default).a7=0):nW l=(l.getD k default).a7:=by
 unfold nW;rw [aM4 (by omega)];have:l.find? (λ o=>o.a7 != 0)=some (l.getD k default):=by
  rw [aPn];refine ⟨by simpa using af,k,aj,(oz aj).symm,λ j aw=> ?_⟩;have:=aU j aw;rw [oz (by omega)] at this;simp [this]
 rw [this]
theorem GX (n lo ak:Int) (w:World):
  Calls prog 112 #[γ n,γ lo,γ ak] w (λ e w'=>e= .returned (.bool (cM n lo ak))∧Ext w w'):=by
 refine cx (n:=15) func112 Z Z Z ?_;refine aF<|aT Z<|aK Z<|vm Z<|aa (ld Z Z)<|vm Z<|fS Z Z<|fS Z Z<|b9 Z (λ hc=>ble (gt hc Z) (gt hc Z))<|aa (eZ Z Z Z Z)<|bH Z<|cZ Z Z<| ?_;exact ⟨Z,(Ext.bN w)⟩
theorem aw2 (o:bC) (w:World):
  Calls prog 113 #[.agg #[γ o.by_,γ o.kind,γ o.bf,γ o.spot.x,γ o.spot.y,γ o.what]] w (λ e w'=>e= .returned (.agg (bC.bare o).cells.toArray)∧Ext w w'):=by
 refine cx (n:=27) func113 Z Z Z ?_;refine fa Z Z λ dk bx bm fQ ag=> ?_;have jd:=ag.lt;refine dn M8 Z λ fT dJ bD j' aG=> ?_;have b7:=J bm bD;refine aJ<|aI<|aF<|aa (au ow Z)<| ?_;have ag:=ag.later bD;refine bA Z ag a6 Z<|aa (beq Z Z)<|aJ<| ?_;refine lf Z (λ j6=> ?_) (λ j6=> ?_)
 ·refine rg<|aa (au Dj Z)<|fM Z Z ag Z cr Z Z λ s3 B8 ag=> ?_;have iV:=Ext.mod b7 B8 bF;refine aJ<|aI<|aF<|aa (au ow Z)<|bA Z ag a6 Z<|gN Z Z<|vm Z<|b9 Z (λ hc=>au ow Z)<|b9 Z (λ hc=>aB (gt hc Z) (ag.one a6 Z))<|b9 Z (λ hc=>bne (gt hc Z) Z)<|aa (eZ Z Z Z Z)<|aJ<| ?_;refine c1 Z (λ pq=> ?_) (λ pq=> ?_)
  ·simp only [cq] at pq;refine rg<|aa (v:= .agg #[γ 0,γ 0]) (hC Z)<|aa (au FL Z)<|st (new:= [γ o.by_,γ o.kind,γ 0,γ 0,γ 0,γ o.what]) Z Z ag Z bs Z Z Z λ rW mo ag=> ?_;have hZ:=Ext.mod iV mo bF;refine aJ<|aI<|aF<|aa (au ow Z)<|bA Z ag a6 Z<|gN Z Z<|vm Z<|b9 Z (λ hc=>au ow Z)<|b9 Z (λ hc=>aB (gt hc Z) (ag.one a6 Z))<|b9 Z (λ hc=>bne (gt hc Z) Z)<|aa (eZ Z Z Z Z)<|aJ<| ?_;refine c1 Z (λ Ae=> ?_) (λ Ae=> ?_)
   ·simp only [cq] at Ae;refine rg<|aa (au Dk Z)<|fM Z Z ag Z cr Z Z λ y6 D_ ag=> ?_;have l4:=Ext.mod hZ D_ bF;refine aJ<|aF<|aa (aB Z (ag.all j4 fV))<| ?_;have aG:=((aG.mod B8 aY).mod mo aY).mod D_ aY;refine c9 Z Z aG Z fV Z Z λ K3 avS aG=> ?_;have s_:=Ext.mod l4 avS bF;refine tZ<|dS (.cell Z (aG.all j4 fV) .nil)<| ?_;exact ⟨by rw [show bC.bare o=(⟨o.by_,o.kind,0,⟨0,0⟩,0⟩:bC) from by unfold bC.bare;congr 1<;>(first | rfl | (split<;>first | rfl | omega))];rfl,s_⟩
   ·simp only [cq] at Ae;refine bE<|aF<|aa (aB Z (ag.all j4 fV))<| ?_;have aG:=(aG.mod B8 aY).mod mo aY;refine c9 Z Z aG Z fV Z Z λ Ct iP aG=> ?_;have oa:=Ext.mod hZ iP bF;refine tZ<|dS (.cell Z (aG.all j4 fV) .nil)<| ?_;exact ⟨by rw [show bC.bare o=(⟨o.by_,o.kind,0,⟨0,0⟩,o.what⟩:bC) from by unfold bC.bare;congr 1<;>(first | rfl | (split<;>first | rfl | omega))];rfl,oa⟩
  ·simp only [cq] at pq;refine bE<|aI<|aF<|aa (au ow Z)<|bA Z ag a6 Z<|gN Z Z<|vm Z<|b9 Z (λ hc=>au ow Z)<|b9 Z (λ hc=>aB (gt hc Z) (ag.one a6 Z))<|b9 Z (λ hc=>bne (gt hc Z) Z)<|aa (eZ Z Z Z Z)<|aJ<| ?_;refine c1 Z (λ yx=> ?_) (λ yx=> ?_)
   ·simp only [cq] at yx;refine rg<|aa (au Dk Z)<|fM Z Z ag Z cr Z Z λ s4 lr ag=> ?_;have k4:=Ext.mod iV lr bF;refine aJ<|aF<|aa (aB Z (ag.all j4 fV))<| ?_;have aG:=(aG.mod B8 aY).mod lr aY;refine c9 Z Z aG Z fV Z Z λ ED Kg aG=> ?_;have o7:=Ext.mod k4 Kg bF;refine tZ<|dS (.cell Z (aG.all j4 fV) .nil)<| ?_;exact ⟨by rw [show bC.bare o=(⟨o.by_,o.kind,0,⟨o.spot.x,o.spot.y⟩,0⟩:bC) from by unfold bC.bare;congr 1<;>(first | rfl | (split<;>first | rfl | omega))];rfl,o7⟩
   ·simp only [cq] at yx;refine bE<|aF<|aa (aB Z (ag.all j4 fV))<| ?_;have aG:=aG.mod B8 aY;refine c9 Z Z aG Z fV Z Z λ xu ue aG=> ?_;have k5:=Ext.mod iV ue bF;refine tZ<|dS (.cell Z (aG.all j4 fV) .nil)<| ?_;exact ⟨by rw [show bC.bare o=(⟨o.by_,o.kind,0,⟨o.spot.x,o.spot.y⟩,o.what⟩:bC) from by unfold bC.bare;congr 1<;>(first | rfl | (split<;>first | rfl | omega))];rfl,k5⟩
 ·refine bE<|aI<|aF<|aa (au ow Z)<|bA Z ag a6 Z<|gN Z Z<|vm Z<|b9 Z (λ hc=>au ow Z)<|b9 Z (λ hc=>aB (gt hc Z) (ag.one a6 Z))<|b9 Z (λ hc=>bne (gt hc Z) Z)<|aa (eZ Z Z Z Z)<|aJ<| ?_;refine c1 Z (λ j7=> ?_) (λ j7=> ?_)
  ·simp only [cq] at j7;refine rg<|aa (v:= .agg #[γ 0,γ 0]) (hC Z)<|aa (au FL Z)<|st (new:= [γ o.by_,γ o.kind,γ o.bf,γ 0,γ 0,γ o.what]) Z Z ag Z bs Z Z Z λ EF gj ag=> ?_;have l7:=Ext.mod b7 gj bF;refine aJ<|aI<|aF<|aa (au ow Z)<|bA Z ag a6 Z<|gN Z Z<|vm Z<|b9 Z (λ hc=>au ow Z)<|b9 Z (λ hc=>aB (gt hc Z) (ag.one a6 Z))<|b9 Z (λ hc=>bne (gt hc Z) Z)<|aa (eZ Z Z Z Z)<|aJ<| ?_;refine c1 Z (λ Ta=> ?_) (λ Ta=> ?_)
   ·simp only [cq] at Ta;refine rg<|aa (au Dk Z)<|fM Z Z ag Z cr Z Z λ uF wY ag=> ?_;have jX:=Ext.mod l7 wY bF;refine aJ<|aF<|aa (aB Z (ag.all j4 fV))<| ?_;have aG:=(aG.mod gj aY).mod wY aY;refine c9 Z Z aG Z fV Z Z λ EG Eg aG=> ?_;have pR:=Ext.mod jX Eg bF;refine tZ<|dS (.cell Z (aG.all j4 fV) .nil)<| ?_;exact ⟨by rw [show bC.bare o=(⟨o.by_,o.kind,o.bf,⟨0,0⟩,0⟩:bC) from by unfold bC.bare;congr 1<;>(first | rfl | (split<;>first | rfl | omega))];rfl,pR⟩
   ·simp only [cq] at Ta;refine bE<|aF<|aa (aB Z (ag.all j4 fV))<| ?_;have aG:=aG.mod gj aY;refine c9 Z Z aG Z fV Z Z λ K6 aeS aG=> ?_;have r5:=Ext.mod l7 aeS bF;refine tZ<|dS (.cell Z (aG.all j4 fV) .nil)<| ?_;exact ⟨by rw [show bC.bare o=(⟨o.by_,o.kind,o.bf,⟨0,0⟩,o.what⟩:bC) from by unfold bC.bare;congr 1<;>(first | rfl | (split<;>first | rfl | omega))];rfl,r5⟩
  ·simp only [cq] at j7;refine bE<|aI<|aF<|aa (au ow Z)<|bA Z ag a6 Z<|gN Z Z<|vm Z<|b9 Z (λ hc=>au ow Z)<|b9 Z (λ hc=>aB (gt hc Z) (ag.one a6 Z))<|b9 Z (λ hc=>bne (gt hc Z) Z)<|aa (eZ Z Z Z Z)<|aJ<| ?_;refine c1 Z (λ Jo=> ?_) (λ Jo=> ?_)
   ·simp only [cq] at Jo;refine rg<|aa (au Dk Z)<|fM Z Z ag Z cr Z Z λ PK gW ag=> ?_;have A_:=Ext.mod b7 gW bF;refine aJ<|aF<|aa (aB Z (ag.all j4 fV))<| ?_;have aG:=aG.mod gW aY;refine c9 Z Z aG Z fV Z Z λ PM Kj aG=> ?_;have EZ:=Ext.mod A_ Kj bF;refine tZ<|dS (.cell Z (aG.all j4 fV) .nil)<| ?_;exact ⟨by rw [show bC.bare o=(⟨o.by_,o.kind,o.bf,⟨o.spot.x,o.spot.y⟩,0⟩:bC) from by unfold bC.bare;congr 1<;>(first | rfl | (split<;>first | rfl | omega))];rfl,EZ⟩
   ·simp only [cq] at Jo;refine bE<|aF<|aa (aB Z (ag.all j4 fV))<|c9 Z Z aG Z fV Z Z λ ahw avV aG=> ?_;have Lt:=Ext.mod b7 avV bF;refine tZ<|dS (.cell Z (aG.all j4 fV) .nil)<| ?_;exact ⟨by rw [show bC.bare o=(⟨o.by_,o.kind,o.bf,⟨o.spot.x,o.spot.y⟩,o.what⟩:bC) from by unfold bC.bare;congr 1<;>(first | rfl | (split<;>first | rfl | omega))];rfl,Lt⟩
theorem afi (o:bC) (w:World):
  Calls prog 85 #[.agg #[γ o.by_,γ o.kind,γ o.bf,γ o.spot.x,γ o.spot.y,γ o.what]] w (λ e w'=>e= .returned (γ o.a7)∧Ext w w'):=by
 refine cx (n:=43) func85 Z Z Z ?_;refine fa Z Z λ dk bx bm fQ ag=> ?_;refine aT Z<|aI<|aF<|aa (au FM Z)<|bA Z ag a6 Z<|c0 FN Z (GX o.by_ 0 7 _) λ fT ea=> ?_;have b7:=J bm ea;refine aa (dD Z)<|vm Z<|b9 Z (λ hc=>au ow Z)<| ?_;have ag:=ag.later ea;refine b9 Z (λ hc=>aB (gt hc Z) (ag.one a6 Z))<|s0 Z FN (λ hc=>fO (gt hc Z) (fO Z (fO Z Z))) (λ hc=>GX o.kind 1 5 _) λ uD gB=> ?_;have jV:=J b7 gB;refine b9 Z (λ hc=>dD (gt hc Z))<|aa (gv Z Z Z Z)<|vm Z<|b9 Z (λ hc=>au Dj Z)<| ?_;have ag:=ag.later gB;refine b9 Z (λ hc=>aB (gt hc Z) (ag.one a6 Z))<|s0 Z FN (λ hc=>fO (gt hc Z) (fO Z (fO Z Z))) (λ hc=>GX o.bf 0 1000000 _) λ y3 ir=> ?_;have mJ:=J jV ir;refine b9 Z (λ hc=>dD (gt hc Z))<|aa (gv Z Z Z Z)<|vm Z<|b9 Z (λ hc=>au FL Z)<|b9 Z (λ hc=>au hE (gt hc Z))<| ?_;have ag:=ag.later ir;refine b9 Z (λ hc=>aB (gt hc Z) (ag.one a6 Z))<|s0 Z FN (λ hc=>fO (gt hc Z) (fO Z (fO Z Z))) (λ hc=>GX o.spot.x (-1000) 1000 _) λ y4 gw=> ?_;have iz:=J mJ gw;refine b9 Z (λ hc=>dD (gt hc Z))<|aa (gv Z Z Z Z)<|vm Z<|b9 Z (λ hc=>au FL Z)<|b9 Z (λ hc=>au hG (gt hc Z))<| ?_;have ag:=ag.later gw;refine b9 Z (λ hc=>aB (gt hc Z) (ag.one a6 Z))<|s0 Z FN (λ hc=>fO (gt hc Z) (fO Z (fO Z Z))) (λ hc=>GX o.spot.y (-1000) 1000 _) λ ahn o4=> ?_;have zd:=J iz o4;refine b9 Z (λ hc=>dD (gt hc Z))<|aa (gv Z Z Z Z)<|vm Z<|b9 Z (λ hc=>au Dk Z)<| ?_;have ag:=ag.later o4;refine b9 Z (λ hc=>aB (gt hc Z) (ag.one a6 Z))<|s0 Z FN (λ hc=>fO (gt hc Z) (fO Z (fO Z Z))) (λ hc=>GX o.what 0 1000000 _) λ Hf iH=> ?_;have nu:=J zd iH;refine b9 Z (λ hc=>dD (gt hc Z))<|aa (gv Z Z Z Z)<|aJ<| ?_;refine c1 Z (λ wa=> ?_) (λ wa=> ?_)
 ·refine aF<|bH Z<|cU<|cZ Z Z<| ?_;exact ⟨by rw [bC.am7 wa];rfl,nu⟩
 ·refine bE<|aI<|aI<| ?_;refine dw [(0,0),(1,0),(2,0)] [0,1,2,3] ?_;have ag:=ag.later iH;refine cS Z (λ _ x=>aB Z ((ag.later x).all j4 fV))<|rk Z Z aoz Z (λ _ x=>aw2 o _) Z<|cS Z (λ _ x=>aB Z ((ag.later x).all j4 fV))<|ax Z (λ _=>YI akS akR (p:=bC.bare o) (q:=o) Z Z)<|fn λ EB fC=> ?_;have l5:=J nu fC;refine br<| ?_;refine c1 Z (λ S5=> ?_) (λ S5=> ?_)
  ·refine aF<|bH Z<|cU<|cZ Z Z<| ?_;exact ⟨by rw [bC.am9 wa S5];rfl,l5⟩
  ·refine bE<|aF<|bH Z<|cZ Z Z<| ?_;exact ⟨by rw [bC.ana wa S5];rfl,l5⟩
theorem aw1 (A:Option Addr) (c:Nat) (l:List bC) (w:World) (ay:bC.rep.aQ 48 w A c l):
  Calls prog 114 #[.slice A l.length c] w (λ e w'=>e= .returned (γ (nW l))∧Ext w w'):=by
 have Gp:=ay.kr;refine cx (n:=21) func114 Z Z Z ?_;refine aF<|aT Z<|aI<|aK Z<|aa (dr underlying53 Z)<|aa (hO Z Z)<|aJ<| ?_;refine fH Z (λ po=> ?_) (λ po=> ?_)
 ·refine aF<|bH Z<|cU<|cZ Z Z<| ?_;exact ⟨by rw [axh (by omega)];rfl,(Ext.bN w)⟩
 ·refine bE<|aI<|aK Z<|aa (dr underlying53 Z)<|vm Z<|aJ<|bT<| ?_;refine gi (λ cJ cu aV=>∃ k:Nat,cu= [(9, .slice A l.length c),(10,γ (l.length:Int)),(11,γ (k:Int))]∧cJ=l.length - k∧Ext w aV∧(k≤l.length)∧(∀ i,i<k→(l.getD i default).a7=0)) _ _ ⟨0,Z,Z,(Ext.bN w),by omega,λ i ak=>by omega⟩ (eS Z Z Z) ?_;rintro aeR XJ xq ⟨k,rfl,rfl,kQ,aj,aU⟩;have:=kQ.size;refine aF<|fB Z Z<|aJ<|aI<| ?_;refine fH Z (λ oB=> ?_) (λ oB=> ?_)
  ·refine bE<|aI<|bT<|aF<|aa (bX k underlying53 fV Z Z ((ay.keep kQ).bw (aZ k)) Z (by omega))<|aa (aB Z (Φ.aQ.jJ abC ((ay.keep kQ).cg (aZ k)) (cj (l:=l) (u:=default) (by omega)) j4 fV))<|dn M8 Z λ EH aE0 ea aHS Qj=> ?_;have mL:=J kQ ea;refine c9 Z Z Qj Z fV Z Z λ y3 UA Qj=> ?_;have mJ:=Ext.mod mL UA bF;refine aJ<|aF<|aa (aB Z (Qj.all j4 fV))<|c0 ZY Z (afi (l.getD k default) _) λ AO hy=> ?_;have nt:=J mJ hy;refine aT Z<|aK Z<|gN Z Z<|aJ<| ?_;refine oq Z (λ yw=> ?_) (λ yw=> ?_)
   ·refine aK Z<|bH Z<|hq<|cU<|Ey<|hq<|cU<|cZ Z Z<| ?_;exact ⟨by rw [axg (by omega) (show k<l.length by omega) aU (by simpa using yw)];rfl,nt⟩
   ·refine fZ<|cl<|eR Z Z Z<| ?_;exact eX ⟨k+1,Z,Z,nt,by omega,D3 aU (by simpa using yw)⟩
  ·refine ej<|ei<|eU<|eh<|br<|aF<|bH Z<|cZ Z Z<| ?_;exact ⟨by rw [axi (by omega) (λ i ak=>aU i (by omega))];rfl,kQ⟩
end
theorem ak4:dN prog eN.rep 143 210 16:=dN.jz (z:=eN.zero) (k:=2) underlying143 eN.info rfl rfl (by decide) eN.k6
theorem ak5:dN prog dU.rep 144 212 24:=dN.jz (z:=dU.zero) (k:=3) underlying144 dU.info rfl rfl (by decide) dU.k6
theorem Q7:dN prog dc.rep 145 191 40:=dN.jz (z:=dc.zero) (k:=5) underlying145 dc.info rfl rfl (by decide) dc.k6
def mA (o:bC):List eN:=if o.kind=1 then [⟨o.bf,o.what⟩] else []
def mC (o:bC):List dU:=if o.kind=2 then [⟨o.bf,⟨o.spot.x,o.spot.y⟩⟩] else []
def mB (o:bC):List dc:=if o.kind=3 then [⟨1,o.bf,⟨o.spot.x,o.spot.y⟩,0⟩] else if o.kind=4 then [⟨2,o.bf,⟨0,0⟩,0⟩] else if o.kind=5 then [⟨3,o.by_,⟨0,0⟩,o.what⟩] else []
theorem X6 (o:bC) (w0:World) (sk:Nat) (A B C:Option Addr) (a b c:Nat) (KD:List eN) (KF:List dU) (KE:List dc) (w:World) (jO:Ext w0 w) (dp:o.ok) (hS:aO w sk [.slice A KD.length a, .slice B KF.length b, .slice C KE.length c] 182 (0,0)) (hA:eN.rep.aM 210 16 w w0.heap.size (Φ.ab A) A a KD) (aS:dU.rep.aM 212 24 w w0.heap.size (Φ.ab B) B b KF) (j5:dc.rep.aM 191 40 w w0.heap.size (Φ.ab C) C c KE) (tF:∀ q∈Φ.ab A,q=sk→False) (tG:∀ q∈Φ.ab B,q=sk→False) (re:∀ q∈Φ.ab C,q=sk→False) (Bw:∀ q∈Φ.ab B,q∈Φ.ab A→False) (yf:∀ q∈Φ.ab C,q∈Φ.ab A→False) (yg:∀ q∈Φ.ab C,q∈Φ.ab B→False) (Cf:KD.length≤100) (rM:KF.length≤100) (pA:KE.length≤100):
  Calls prog 115 #[.pointer (a_ sk), .agg #[γ o.by_,γ o.kind,γ o.bf,γ o.spot.x,γ o.spot.y,γ o.what]] w (λ e w'=>∃ bS a' pT vL CQ cn,e= .returned (.tuple #[])∧aO w' sk [.slice bS (KD++mA o).length a', .slice pT (KF++mC o).length vL, .slice CQ (KE++mB o).length cn] 182 (0,0)∧eN.rep.aM 210 16 w' w0.heap.size (Φ.ab bS) bS a' (KD++mA o)∧dU.rep.aM 212 24 w' w0.heap.size (Φ.ab pT) pT vL (KF++mC o)∧dc.rep.aM 191 40 w' w0.heap.size (Φ.ab CQ) CQ cn (KE++mB o)∧(∀ q∈Φ.ab bS,q=sk→False)∧(∀ q∈Φ.ab pT,q=sk→False)∧(∀ q∈Φ.ab CQ,q=sk→False)∧(∀ q∈Φ.ab pT,q∈Φ.ab bS→False)∧(∀ q∈Φ.ab CQ,q∈Φ.ab bS→False)∧(∀ q∈Φ.ab CQ,q∈Φ.ab pT→False)∧(∀ q∈Φ.ab bS,q∈Φ.ab A∨w.heap.size≤q)∧(∀ q∈Φ.ab pT,q∈Φ.ab B∨w.heap.size≤q)∧(∀ q∈Φ.ab CQ,q∈Φ.ab C∨w.heap.size≤q)∧Mod (sk::(Φ.ab A++(Φ.ab B++Φ.ab C))) w w'):=by
 have aHn:=jO.size;have ka:=hS.lt;have Hb:=bZ hA.lt;have Pr:=bZ aS.lt;have ag1:=bZ j5.lt;refine cx (n:=84) func115 Z Z Z ?_;refine fa Z Z λ dk bx bm fQ ag=> ?_;have dM:=(Mod.bN (sk::(Φ.ab A++(Φ.ab B++Φ.ab C))) w).trans (Mod.aP bm);have jd:=ag.lt;refine aJ<|aF<|aa (au ow Z)<|bA Z ag a6 Z<|aJ<|bT<|aF<|aa (beq Z Z)<|aT Z<| ?_;refine lf Z (λ oC=> ?_) (λ oC=> ?_)
 ·refine dw [(4,0),(6,0),(8,0),(10,2),(11,3),(14,3)] [0,1,2,3,4,5,6,7,8,9,10,11,12,13,14] ?_;refine bn Z Z<|bn Z Z<|ax Z (λ _=>b3 Z)<|ax Z (λ _=>au RN Z)<| ?_;have hS:=hS.later bm;refine cP Z Z hS Z0 Z<|ax Z (λ _=>au Dj Z)<|cP Z Z ag a6 Z<|ax Z (λ _=>au Dk Z)<|cP Z Z ag a6 Z<|kn (v:= .agg #[γ o.bf,γ o.what]) Z Z (λ _=>gR Z (by kernel_rfl)) Z<|fW Z Z Z λ uG bD Q hK=>b_ (e:= 210) (cs:= [γ o.bf,γ o.what]) Z (λ _=>by kernel_rfl) Z λ uD aEr eA aH5 Xj=>hK _ _ ⟨J bD eA, ?_⟩;have:=bD.size;have jh:=dM.trans (Mod.aP bD);have jV:=jh.trans (Mod.aP eA);have afN:=Xj.lt;have hA:=hA.later (J bm (J bD eA));refine dC Z Z Z λ qN kN Q hK=>ap ak4 Φ.c6 (hA.later kN) ((aO.fy (R:=eN.rep) (by_:=16) (q:=(⟨o.bf,o.what⟩:eN)) Xj ⟨Z,(by obtain ⟨Kt,ui,pB,rP,uj,uk⟩:=dp;exact ⟨pB,uk⟩)⟩ (by decide)).keep kN) Z Z (by simp only [aM1,aM5];omega) (by simp only [aM1,aM5];omega) (by have:=kN.size;omega) Z λ rW HC amr ud C6 I_ aJo=>hK _ _ ?_;have:=kN.size;have l3:=jV.trans (Mod.aP kN);have hZ:=l3.md ud (λ q I=> .inl (aNe _ (aNi.2 (.inl I))));refine ax Z (λ _=>b3 Z)<|ax Z (λ _=>au RN Z)<| ?_;have hS:=(hS.later (J bD (J eA kN))).mod ud (λ I=>tF _ I rfl);refine dC Z Z Z λ AR pP Q hK=>fM Z Z (hS.later pP) Z aoA Z Z λ Ct iP hS=>hK _ _ ?_;have mK:=hZ.trans (Mod.aP pP);have oa:=mK.md iP k0;refine fn λ s4 iw=> ?_;have k4:=oa.trans (Mod.aP iw);refine cl<|ne<|dS .nil<| ?_;have hS:=hS.later iw;have dW:=uw (ua pP iP) iw;have C6:=C6.mod dW (c2 λ q I af=>aNq (I_ q I) (λ adv=>by (exact tF q adv af)) (λ adv=>by omega));have aS:=((aS.later (J bm (J bD (J eA kN)))).mod ud Bw).mod dW (c2 tG);have j5:=((j5.later (J bm (J bD (J eA kN)))).mod ud yf).mod dW (c2 re);have aR:mA o= [(⟨o.bf,o.what⟩:eN)]:=by unfold mA;simp [*]
  have a1:mC o= []:=by unfold mC;simp [*]
  have cL:mB o= []:=by unfold mB;simp [*]
  rw [aR,a1,cL];simp only [aNA];exact ⟨HC,amr,B,b,C,c,Z,hS,C6,aS,j5,(gz I_ tF),tG,re,(gg (oT I_ (gg Bw) Pr)),(gg (oT I_ (gg yf) ag1)),yg,(λ q I=>(I_ q I).imp id λ h=>by omega),(λ q I=> .inl I),(λ q I=> .inl I),k4⟩
 ·refine aF<|aa (beq Z Z)<|aT Z<| ?_;refine lf Z (λ aq8=> ?_) (λ aq8=> ?_)
  ·refine dw [(4,0),(6,0),(8,0),(10,2),(11,3),(14,3)] [0,1,2,3,4,5,6,7,8,9,10,11,12,13,14] ?_;refine bn Z Z<|bn Z Z<|ax Z (λ _=>b3 Z)<|ax Z (λ _=>au RO Z)<| ?_;have hS:=hS.later bm;refine cP Z Z hS Z1 Z<|ax Z (λ _=>au Dj Z)<|cP Z Z ag a6 Z<|ax Z (λ _=>au FL Z)<|cS Z (λ _ x=>aB Z ((ag.later x).par [γ o.spot.x,γ o.spot.y] b2 bs Z))<|kn (v:= .agg #[γ o.bf,γ o.spot.x,γ o.spot.y]) Z Z (λ _=>gR Z (by kernel_rfl)) Z<|fW Z Z Z λ xu dm Q hK=>b_ (e:= 212) (cs:= [γ o.bf,γ o.spot.x,γ o.spot.y]) Z (λ _=>by kernel_rfl) Z λ K4 zJ hJ aed tq=>hK _ _ ⟨J dm hJ, ?_⟩;have:=dm.size;have k5:=dM.trans (Mod.aP dm);have xH:=k5.trans (Mod.aP hJ);have U1:=tq.lt;have aS:=aS.later (J bm (J dm hJ));refine dC Z Z Z λ uF fq Q hK=>ap ak5 Φ.c6 (aS.later fq) ((aO.fy (R:=dU.rep) (by_:=24) (q:=(⟨o.bf,⟨o.spot.x,o.spot.y⟩⟩:dU)) tq ⟨Z,(by obtain ⟨Kt,ui,pB,rP,uj,uk⟩:=dp;exact ⟨pB,rP,uj⟩)⟩ (by decide)).keep fq) Z Z (by simp only [aM1,aM5];omega) (by simp only [aM1,aM5];omega) (by have:=fq.size;omega) Z λ ahs aiO amz Eg Q4 Jc aJB=>hK _ _ ?_;have:=fq.size;have jX:=xH.trans (Mod.aP fq);have Lp:=jX.md Eg (λ q I=> .inl (aNe _ (aNi.2 (.inr (aNi.2 (.inl I))))));refine ax Z (λ _=>b3 Z)<|ax Z (λ _=>au RO Z)<| ?_;have hS:=(hS.later (J dm (J hJ fq))).mod Eg (λ I=>tG _ I rfl);refine dC Z Z Z λ PK Wo Q hK=>fM Z Z (hS.later Wo) Z aoB Z Z λ PL aeT hS=>hK _ _ ?_;have A_:=Lp.trans (Mod.aP Wo);have ze:=A_.md aeT k0;refine fn λ V' fr=> ?_;have vd:=ze.trans (Mod.aP fr);refine cl<|ne<|dS .nil<| ?_;have hS:=hS.later fr;have lq:=uw (ua Wo aeT) fr;have hA:=((hA.later (J bm (J dm (J hJ fq)))).mod Eg (gg Bw)).mod lq (c2 tF);have Q4:=Q4.mod lq (c2 λ q I af=>aNq (Jc q I) (λ J3=>by (exact tG q J3 af)) (λ J3=>by omega));have j5:=((j5.later (J bm (J dm (J hJ fq)))).mod Eg yg).mod lq (c2 re);have aR:mA o= []:=by unfold mA;simp [*]
   have a1:mC o= [(⟨o.bf,⟨o.spot.x,o.spot.y⟩⟩:dU)]:=by unfold mC;simp [*]
   have cL:mB o= []:=by unfold mB;simp [*]
   rw [aR,a1,cL];simp only [aNA];exact ⟨A,a,aiO,amz,C,c,Z,hS,hA,Q4,j5,tF,(gz Jc tG),re,(oT Jc Bw Hb),yf,(gg (oT Jc (gg yg) ag1)),(λ q I=> .inl I),(λ q I=>(Jc q I).imp id λ h=>by omega),(λ q I=> .inl I),vd⟩
  ·refine aF<|aa (beq Z Z)<|aT Z<| ?_;refine lf Z (λ wb=> ?_) (λ wb=> ?_)
   ·refine dw [(4,0),(6,0),(8,0),(10,2),(11,3),(14,3)] [0,1,2,3,4,5,6,7,8,9,10,11,12,13,14] ?_;refine bn Z Z<|bn Z Z<|ax Z (λ _=>b3 Z)<|ax Z (λ _=>au Dl Z)<| ?_;have hS:=hS.later bm;refine cP Z Z hS M9 Z<|ax Z (λ _=>au Dj Z)<|cP Z Z ag a6 Z<|ax Z (λ _=>au FL Z)<|cS Z (λ _ x=>aB Z ((ag.later x).par [γ o.spot.x,γ o.spot.y] b2 bs Z))<|kn (v:= .agg #[γ 1,γ o.bf,γ o.spot.x,γ o.spot.y,γ 0]) Z Z (λ _=>gR Z (by kernel_rfl)) Z<|fW Z Z Z λ K9 gT Q hK=>b_ (e:= 191) (cs:= [γ 1,γ o.bf,γ o.spot.x,γ o.spot.y,γ 0]) Z (λ _=>by kernel_rfl) Z λ EJ aE4 Hp aIL LC=>hK _ _ ⟨J gT Hp, ?_⟩;have:=gT.size;have ve:=dM.trans (Mod.aP gT);have kz:=ve.trans (Mod.aP Hp);have aKZ:=LC.lt;have j5:=j5.later (J bm (J gT Hp));refine dC Z Z Z λ ahA CE Q hK=>ap Q7 Φ.c6 (j5.later CE) ((aO.fy (R:=dc.rep) (by_:=40) (q:=(⟨1,o.bf,⟨o.spot.x,o.spot.y⟩,0⟩:dc)) LC ⟨Z,(by obtain ⟨Kt,ui,pB,rP,uj,uk⟩:=dp;exact ⟨gl,pB,rP,uj,gl⟩)⟩ (by decide)).keep CE) Z Z (by simp only [aM1,aM5];omega) (by simp only [aM1,aM5];omega) (by have:=CE.size;omega) Z λ Wb aiX amL wJ QS I6 aI7=>hK _ _ ?_;have:=CE.size;have Lv:=kz.trans (Mod.aP CE);have A':=Lv.md wJ (λ q I=> .inl (aNe _ (aNi.2 (.inr (aNi.2 (.inr I))))));refine ax Z (λ _=>b3 Z)<|ax Z (λ _=>au Dl Z)<| ?_;have hS:=(hS.later (J gT (J Hp CE))).mod wJ (λ I=>re _ I rfl);refine dC Z Z Z λ VY fN Q hK=>fM Z Z (hS.later fN) Z RP Z Z λ VZ yO hS=>hK _ _ ?_;have EU:=A'.trans (Mod.aP fN);have EV:=EU.md yO k0;refine fn λ PB lX=> ?_;have A4:=EV.trans (Mod.aP lX);refine cl<|ne<|dS .nil<| ?_;have hS:=hS.later lX;have qy:=uw (ua fN yO) lX;have hA:=((hA.later (J bm (J gT (J Hp CE)))).mod wJ (gg yf)).mod qy (c2 tF);have aS:=((aS.later (J bm (J gT (J Hp CE)))).mod wJ (gg yg)).mod qy (c2 tG);have QS:=QS.mod qy (c2 λ q I af=>aNq (I6 q I) (λ JY=>by (exact re q JY af)) (λ JY=>by omega));have aR:mA o= []:=by unfold mA;simp [*]
    have a1:mC o= []:=by unfold mC;simp [*]
    have cL:mB o= [(⟨1,o.bf,⟨o.spot.x,o.spot.y⟩,0⟩:dc)]:=by unfold mB;simp [*]
    rw [aR,a1,cL];simp only [aNA];exact ⟨A,a,B,b,aiX,amL,Z,hS,hA,aS,QS,tF,tG,(gz I6 re),Bw,(oT I6 yf Hb),(oT I6 yg Pr),(λ q I=> .inl I),(λ q I=> .inl I),(λ q I=>(I6 q I).imp id λ h=>by omega),A4⟩
   ·refine aF<|aa (beq Z Z)<|aT Z<| ?_;refine lf Z (λ SZ=> ?_) (λ SZ=> ?_)
    ·refine dw [(4,0),(6,0),(8,2),(9,3),(12,3)] [0,1,2,3,4,5,6,7,8,9,10,11,12] ?_;refine bn Z Z<|bn Z Z<|ax Z (λ _=>b3 Z)<|ax Z (λ _=>au Dl Z)<| ?_;have hS:=hS.later bm;refine cP Z Z hS M9 Z<|ax Z (λ _=>au Dj Z)<|cP Z Z ag a6 Z<|kn (v:= .agg #[γ 2,γ o.bf,γ 0,γ 0,γ 0]) Z Z (λ _=>gR Z (by kernel_rfl)) Z<|fW Z Z Z λ PC n7 Q hK=>b_ (e:= 191) (cs:= [γ 2,γ o.bf,γ 0,γ 0,γ 0]) Z (λ _=>by kernel_rfl) Z λ aLG aEu Hm aH2 Xh=>hK _ _ ⟨J n7 Hm, ?_⟩;have:=n7.size;have CG:=dM.trans (Mod.aP n7);have aB9:=CG.trans (Mod.aP Hm);have aKc:=Xh.lt;have j5:=j5.later (J bm (J n7 Hm));refine dC Z Z Z λ ahl Cz Q hK=>ap Q7 Φ.c6 (j5.later Cz) ((aO.fy (R:=dc.rep) (by_:=40) (q:=(⟨2,o.bf,⟨0,0⟩,0⟩:dc)) Xh ⟨Z,(by obtain ⟨Kt,ui,pB,rP,uj,uk⟩:=dp;exact ⟨gl,pB,gl,gl,gl⟩)⟩ (by decide)).keep Cz) Z Z (by simp only [aM1,aM5];omega) (by simp only [aM1,aM5];omega) (by have:=Cz.size;omega) Z λ aLL aix ami OD QV I8 aJe=>hK _ _ ?_;have:=Cz.size;have Ln:=aB9.trans (Mod.aP Cz);have aCe:=Ln.md OD (λ q I=> .inl (aNe _ (aNi.2 (.inr (aNi.2 (.inr I))))));refine ax Z (λ _=>b3 Z)<|ax Z (λ _=>au Dl Z)<| ?_;have hS:=(hS.later (J n7 (J Hm Cz))).mod OD (λ I=>re _ I rfl);refine dC Z Z Z λ aAZ pN Q hK=>fM Z Z (hS.later pN) Z RP Z Z λ V1 rG hS=>hK _ _ ?_;have WB:=aCe.trans (Mod.aP pN);have Ht:=WB.md rG k0;refine fn λ ahm kM=> ?_;have EW:=Ht.trans (Mod.aP kM);refine cl<|ne<|dS .nil<| ?_;have hS:=hS.later kM;have yL:=uw (ua pN rG) kM;have hA:=((hA.later (J bm (J n7 (J Hm Cz)))).mod OD (gg yf)).mod yL (c2 tF);have aS:=((aS.later (J bm (J n7 (J Hm Cz)))).mod OD (gg yg)).mod yL (c2 tG);have QV:=QV.mod yL (c2 λ q I af=>aNq (I8 q I) (λ J2=>by (exact re q J2 af)) (λ J2=>by omega));have aR:mA o= []:=by unfold mA;simp [*]
     have a1:mC o= []:=by unfold mC;simp [*]
     have cL:mB o= [(⟨2,o.bf,⟨0,0⟩,0⟩:dc)]:=by unfold mB;simp [*]
     rw [aR,a1,cL];simp only [aNA];exact ⟨A,a,B,b,aix,ami,Z,hS,hA,aS,QV,tF,tG,(gz I8 re),Bw,(oT I8 yf Hb),(oT I8 yg Pr),(λ q I=> .inl I),(λ q I=> .inl I),(λ q I=>(I8 q I).imp id λ h=>by omega),EW⟩
    ·refine aF<|aa (beq Z Z)<|aT Z<| ?_;refine lf Z (λ aq3=> ?_) (λ aq3=> ?_)
     ·refine dw [(4,0),(6,0),(8,0),(10,2),(11,3),(14,3)] [0,1,2,3,4,5,6,7,8,9,10,11,12,13,14] ?_;refine bn Z Z<|bn Z Z<|ax Z (λ _=>b3 Z)<|ax Z (λ _=>au Dl Z)<| ?_;have hS:=hS.later bm;refine cP Z Z hS M9 Z<|ax Z (λ _=>au FM Z)<|cP Z Z ag a6 Z<|ax Z (λ _=>au Dk Z)<|cP Z Z ag a6 Z<|kn (v:= .agg #[γ 3,γ o.by_,γ 0,γ 0,γ o.what]) Z Z (λ _=>gR Z (by kernel_rfl)) Z<|fW Z Z Z λ aLY ER Q hK=>b_ (e:= 191) (cs:= [γ 3,γ o.by_,γ 0,γ 0,γ o.what]) Z (λ _=>by kernel_rfl) Z λ aA1 aEB Ho aIb Xn=>hK _ _ ⟨J ER Ho, ?_⟩;have:=ER.size;have aCn:=dM.trans (Mod.aP ER);have WD:=aCn.trans (Mod.aP Ho);have aKj:=Xn.lt;have j5:=j5.later (J bm (J ER Ho));refine dC Z Z Z λ aL2 CA Q hK=>ap Q7 Φ.c6 (j5.later CA) ((aO.fy (R:=dc.rep) (by_:=40) (q:=(⟨3,o.by_,⟨0,0⟩,o.what⟩:dc)) Xn ⟨Z,(by obtain ⟨Kt,ui,pB,rP,uj,uk⟩:=dp;exact ⟨gl,Kt,gl,gl,uk⟩)⟩ (by decide)).keep CA) Z Z (by simp only [aM1,aM5];omega) (by simp only [aM1,aM5];omega) (by have:=CA.size;omega) Z λ aA2 aiC aml OK QW I9 aJj=>hK _ _ ?_;have:=CA.size;have aCr:=WD.trans (Mod.aP CA);have WE:=aCr.md OK (λ q I=> .inl (aNe _ (aNi.2 (.inr (aNi.2 (.inr I))))));refine ax Z (λ _=>b3 Z)<|ax Z (λ _=>au Dl Z)<| ?_;have hS:=(hS.later (J ER (J Ho CA))).mod OK (λ I=>re _ I rfl);refine dC Z Z Z λ aA4 s5 Q hK=>fM Z Z (hS.later s5) Z RP Z Z λ aL5 aeP hS=>hK _ _ ?_;have WG:=WE.trans (Mod.aP s5);have aCu:=WG.md aeP k0;refine fn λ aL7 Wn=> ?_;have aCw:=aCu.trans (Mod.aP Wn);refine cl<|ne<|dS .nil<| ?_;have hS:=hS.later Wn;have D5:=uw (ua s5 aeP) Wn;have hA:=((hA.later (J bm (J ER (J Ho CA)))).mod OK (gg yf)).mod D5 (c2 tF);have aS:=((aS.later (J bm (J ER (J Ho CA)))).mod OK (gg yg)).mod D5 (c2 tG);have QW:=QW.mod D5 (c2 λ q I af=>aNq (I9 q I) (λ acP=>by (exact re q acP af)) (λ acP=>by omega));have aR:mA o= []:=by unfold mA;simp [*]
      have a1:mC o= []:=by unfold mC;simp [*]
      have cL:mB o= [(⟨3,o.by_,⟨0,0⟩,o.what⟩:dc)]:=by unfold mB;simp [*]
      rw [aR,a1,cL];simp only [aNA];exact ⟨A,a,B,b,aiC,aml,Z,hS,hA,aS,QW,tF,tG,(gz I9 re),Bw,(oT I9 yf Hb),(oT I9 yg Pr),(λ q I=> .inl I),(λ q I=> .inl I),(λ q I=>(I9 q I).imp id λ h=>by omega),aCw⟩
     ·refine fZ<|cl<|ne<|dS .nil<| ?_;have hS:=hS.later bm;have hA:=hA.later bm;have aS:=aS.later bm;have j5:=j5.later bm;have aR:mA o= []:=by unfold mA;simp [*]
      have a1:mC o= []:=by unfold mC;simp [*]
      have cL:mB o= []:=by unfold mB;simp [*]
      rw [aR,a1,cL];simp only [aNA];exact ⟨A,a,B,b,C,c,Z,hS,hA,aS,j5,tF,tG,re,Bw,yf,yg,(λ q I=> .inl I),(λ q I=> .inl I),(λ q I=> .inl I),dM⟩
end Go.Proofs.YthlpmldmhakhaaaGreatDoor
