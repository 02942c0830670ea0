import Derived.Test.YtlikikpgmmkjbaaGreatGra
import Derived.Test.YtlikikpgmmkjbaaGreatTroG
import Derived.Test.YtlikikpgmmkjbaaGreatBlw
import Derived.Test.YtlikikpgmmkjbaaGreatPtq
set_option linter.unusedVariables false
set_option linter.unusedSimpArgs false
set_option maxRecDepth 100000
set_option maxHeartbeats 4000000
namespace Go.Proofs.YtlikikpgmmkjbaaGreat
section
open Go.RowKit
theorem check_any (a:Wd.At) (W:Wd) (w:World) (hW:Wd.Has w a W):
  Calls Tryz.prog 56 #[.agg (Wd.cells a W).toArray] w λ e w'=>e= .returned (.int .i64 W.chk)∧Below w.heap.size w w':=by
 have hpl:=λ h0 h8 V (h:Wd.Has V a W)=>players_any a W V h h0 h8
 have hmi:=λ V (h:Wd.Has V a W)=>mines_any a W V h
 have htr:=λ h0 h8 h100 V (h:Wd.Has V a W)=>troops_any a W V h h0 h8 h100
 obtain ⟨aP,aB,aS,aM,aT,kP,kB,kS,kM,kT⟩:=a
 show Calls _ _ #[.agg #[.int .i64 W.field.wide, .int .i64 W.field.high, .slice aP W.field.places.length kP, .slice aB W.bases.length kB, .slice aS W.stocks.length kS, .slice aM W.mines.length kM, .slice aT W.troops.length kT, .int .i64 W.next, .int .i64 W.now]] _ _
 have hb0:=below_alloc0 w (.cells (Wd.cells ⟨aP,aB,aS,aM,aT,kP,kB,kS,kM,kT⟩ W).toArray 28)
 have HA:=Lib.hid (Blk.new w (Wd.cells ⟨aP,aB,aS,aM,aT,kP,kB,kS,kM,kT⟩ W) 28 (0,0))
 have HH:=Lib.hid (hW.keep hb0)
 obtain ⟨w0,HW0⟩:∃ w0,Hid (w.alloc (.cells (Wd.cells ⟨aP,aB,aS,aM,aT,kP,kB,kS,kM,kT⟩ W).toArray 28)=w0):=⟨_,Lib.hid rfl⟩
 rw [HW0.out] at hb0 HH
 have HA:Hid (Blk w0 w.heap.size (Wd.cells ⟨aP,aB,aS,aM,aT,kP,kB,kS,kM,kT⟩ W) 28 (0,0)):=by rw [← HW0.out];exact HA
 have hf:=fldCheck W.field aP kP w0 HH.out.P
 have HW1:Hid (w.alloc (.cells #[.int .i64 W.field.wide, .int .i64 W.field.high, .slice aP W.field.places.length kP, .slice aB W.bases.length kB, .slice aS W.stocks.length kS, .slice aM W.mines.length kM, .slice aT W.troops.length kT, .int .i64 W.next, .int .i64 W.now] 28)=w0):=by rw [← HW0.out];rfl
 obtain ⟨c0,c1,c2,c3,c4,c5,c6,c7,c8⟩:=Wd.wblk HA.out
 clear hW
 by_cases hf0:W.field.chk=0
 ·by_cases hlg:8<W.bases.length∨100<W.troops.length
  ·rw [Wd.chk_large hf0 hlg]
   rw [hf0] at hf
   have HLG:=Lib.hid hlg
   clear hlg hf0 hpl hmi htr
   generalize W.field.places.length=np at *
   generalize W.bases.length=nb at *
   generalize W.stocks.length=ns at *
   generalize W.mines.length=nm at *
   generalize W.troops.length=nt at *
   go_enter Tryz.func56,Tryz.ntmps56
   go_wp2_with fail
   rw [HW1.out]
   refine hf.mono ?_;rintro e w2 ⟨rfl,hb2⟩
   have d3:=cell_later hb2 c3
   have d6:=cell_later hb2 c6
   have key:decide ((8:Int)<(nb:Int))=true∨(decide ((8:Int)<(nb:Int))=false∧decide ((100:Int)<(nt:Int))=true):=by
    have:=HLG.out
    simp;omega
   clear c0 c1 c2 c3 c4 c5 c6 c7 c8
   rcases key with h | ⟨h,h2⟩
   all_goals
    go_wp2_with fail
    go_ret
    exact ⟨rfl,hb0.trans (hb2.mono hb0.size)⟩
  ·rw [Wd.chk_all hf0 hlg]
   have h8:W.bases.length≤8:=by omega
   have h100:W.troops.length≤100:=by omega
   have hpl:=hpl hf0 h8
   have htr:=htr hf0 h8 h100
   rw [hf0] at hf
   have g1:decide ((8:Int)<(W.bases.length:Int))=false:=by simp;omega
   have g2:decide ((100:Int)<(W.troops.length:Int))=false:=by simp;omega
   have HPL:=Lib.hid (λ V (h:Below w0.heap.size w0 V)=>hpl V (HH.out.keep h))
   have HMI:=Lib.hid (λ V (h:Below w0.heap.size w0 V)=>hmi V (HH.out.keep h))
   have HTR:=Lib.hid (λ V (h:Below w0.heap.size w0 V)=>htr V (HH.out.keep h))
   rw [Wd.cells_eq] at HPL HMI HTR
   have HPL:Hid (∀ V,Below w0.heap.size w0 V→Calls Tryz.prog 89 #[.agg #[.int .i64 W.field.wide, .int .i64 W.field.high, .slice aP W.field.places.length kP, .slice aB W.bases.length kB, .slice aS W.stocks.length kS, .slice aM W.mines.length kM, .slice aT W.troops.length kT, .int .i64 W.next, .int .i64 W.now]] V λ e w'=>e= .returned (.bool W.players)∧Below V.heap.size V w'):=HPL
   have HMI:Hid (∀ V,Below w0.heap.size w0 V→Calls Tryz.prog 90 #[.agg #[.int .i64 W.field.wide, .int .i64 W.field.high, .slice aP W.field.places.length kP, .slice aB W.bases.length kB, .slice aS W.stocks.length kS, .slice aM W.mines.length kM, .slice aT W.troops.length kT, .int .i64 W.next, .int .i64 W.now]] V λ e w'=>e= .returned (.bool W.minesOk)∧Below V.heap.size V w'):=HMI
   have HTR:Hid (∀ V,Below w0.heap.size w0 V→Calls Tryz.prog 91 #[.agg #[.int .i64 W.field.wide, .int .i64 W.field.high, .slice aP W.field.places.length kP, .slice aB W.bases.length kB, .slice aS W.stocks.length kS, .slice aM W.mines.length kM, .slice aT W.troops.length kT, .int .i64 W.next, .int .i64 W.now]] V λ e w'=>e= .returned (.bool W.troopsOk)∧Below V.heap.size V w'):=HTR
   clear hlg hf0 hpl hmi htr h8 h100
   generalize W.players=r1 at *
   generalize W.minesOk=r2 at *
   generalize W.troopsOk=r3 at *
   generalize W.field.places.length=np at *
   generalize W.bases.length=nb at *
   generalize W.stocks.length=ns at *
   generalize W.mines.length=nm at *
   generalize W.troops.length=nt at *
   have q0:=hf
   clear hf
   cases r1 with
   | false =>
    go_enter Tryz.func56,Tryz.ntmps56
    go_wp2_with fail
    rw [HW1.out]
    refine q0.mono ?_;rintro e w2 ⟨rfl,hb2⟩
    have c0:=cell_later hb2 c0
    have c1:=cell_later hb2 c1
    have c2:=cell_later hb2 c2
    have c3:=cell_later hb2 c3
    have c4:=cell_later hb2 c4
    have c5:=cell_later hb2 c5
    have c6:=cell_later hb2 c6
    have c7:=cell_later hb2 c7
    have c8:=cell_later hb2 c8
    go_wp2_with fail
    refine (HPL.out _ hb2).mono ?_;rintro e w3 ⟨rfl,hb3⟩
    go_wp2_with fail
    go_ret
    exact ⟨rfl,hb0.trans ((below_on hb2 hb3).mono hb0.size)⟩
   | true =>
    cases r2 with
    | false =>
     go_enter Tryz.func56,Tryz.ntmps56
     go_wp2_with fail
     rw [HW1.out]
     refine q0.mono ?_;rintro e w2 ⟨rfl,hb2⟩
     have c0:=cell_later hb2 c0
     have c1:=cell_later hb2 c1
     have c2:=cell_later hb2 c2
     have c3:=cell_later hb2 c3
     have c4:=cell_later hb2 c4
     have c5:=cell_later hb2 c5
     have c6:=cell_later hb2 c6
     have c7:=cell_later hb2 c7
     have c8:=cell_later hb2 c8
     go_wp2_with fail
     refine (HPL.out _ hb2).mono ?_;rintro e w3 ⟨rfl,hb3⟩
     have hb23:=below_on hb2 hb3
     have c0:=cell_later hb3 c0
     have c1:=cell_later hb3 c1
     have c2:=cell_later hb3 c2
     have c3:=cell_later hb3 c3
     have c4:=cell_later hb3 c4
     have c5:=cell_later hb3 c5
     have c6:=cell_later hb3 c6
     have c7:=cell_later hb3 c7
     have c8:=cell_later hb3 c8
     go_wp2_with fail
     refine (HMI.out _ hb23).mono ?_;rintro e w4 ⟨rfl,hb4⟩
     go_wp2_with fail
     go_ret
     exact ⟨rfl,hb0.trans ((below_on hb23 hb4).mono hb0.size)⟩
    | true =>
     cases r3 with
     | false =>
      go_enter Tryz.func56,Tryz.ntmps56
      go_wp2_with fail
      rw [HW1.out]
      refine q0.mono ?_;rintro e w2 ⟨rfl,hb2⟩
      have c0:=cell_later hb2 c0
      have c1:=cell_later hb2 c1
      have c2:=cell_later hb2 c2
      have c3:=cell_later hb2 c3
      have c4:=cell_later hb2 c4
      have c5:=cell_later hb2 c5
      have c6:=cell_later hb2 c6
      have c7:=cell_later hb2 c7
      have c8:=cell_later hb2 c8
      go_wp2_with fail
      refine (HPL.out _ hb2).mono ?_;rintro e w3 ⟨rfl,hb3⟩
      have hb23:=below_on hb2 hb3
      have c0:=cell_later hb3 c0
      have c1:=cell_later hb3 c1
      have c2:=cell_later hb3 c2
      have c3:=cell_later hb3 c3
      have c4:=cell_later hb3 c4
      have c5:=cell_later hb3 c5
      have c6:=cell_later hb3 c6
      have c7:=cell_later hb3 c7
      have c8:=cell_later hb3 c8
      go_wp2_with fail
      refine (HMI.out _ hb23).mono ?_;rintro e w4 ⟨rfl,hb4⟩
      have hb24:=below_on hb23 hb4
      have c0:=cell_later hb4 c0
      have c1:=cell_later hb4 c1
      have c2:=cell_later hb4 c2
      have c3:=cell_later hb4 c3
      have c4:=cell_later hb4 c4
      have c5:=cell_later hb4 c5
      have c6:=cell_later hb4 c6
      have c7:=cell_later hb4 c7
      have c8:=cell_later hb4 c8
      go_wp2_with fail
      refine (HTR.out _ hb24).mono ?_;rintro e w5 ⟨rfl,hb5⟩
      go_wp2_with fail
      go_ret
      exact ⟨rfl,hb0.trans ((below_on hb24 hb5).mono hb0.size)⟩
     | true =>
      go_enter Tryz.func56,Tryz.ntmps56
      go_wp2_with fail
      rw [HW1.out]
      refine q0.mono ?_;rintro e w2 ⟨rfl,hb2⟩
      have c0:=cell_later hb2 c0
      have c1:=cell_later hb2 c1
      have c2:=cell_later hb2 c2
      have c3:=cell_later hb2 c3
      have c4:=cell_later hb2 c4
      have c5:=cell_later hb2 c5
      have c6:=cell_later hb2 c6
      have c7:=cell_later hb2 c7
      have c8:=cell_later hb2 c8
      go_wp2_with fail
      refine (HPL.out _ hb2).mono ?_;rintro e w3 ⟨rfl,hb3⟩
      have hb23:=below_on hb2 hb3
      have c0:=cell_later hb3 c0
      have c1:=cell_later hb3 c1
      have c2:=cell_later hb3 c2
      have c3:=cell_later hb3 c3
      have c4:=cell_later hb3 c4
      have c5:=cell_later hb3 c5
      have c6:=cell_later hb3 c6
      have c7:=cell_later hb3 c7
      have c8:=cell_later hb3 c8
      go_wp2_with fail
      refine (HMI.out _ hb23).mono ?_;rintro e w4 ⟨rfl,hb4⟩
      have hb24:=below_on hb23 hb4
      have c0:=cell_later hb4 c0
      have c1:=cell_later hb4 c1
      have c2:=cell_later hb4 c2
      have c3:=cell_later hb4 c3
      have c4:=cell_later hb4 c4
      have c5:=cell_later hb4 c5
      have c6:=cell_later hb4 c6
      have c7:=cell_later hb4 c7
      have c8:=cell_later hb4 c8
      go_wp2_with fail
      refine (HTR.out _ hb24).mono ?_;rintro e w5 ⟨rfl,hb5⟩
      go_wp2_with fail
      go_ret
      exact ⟨rfl,hb0.trans ((below_on hb24 hb5).mono hb0.size)⟩
 ·rw [Wd.chk_field hf0]
  have hd:(W.field.chk == 0)=false:=by simpa using hf0
  have hd2:(W.field.chk != 0)=true:=by simpa using hf0
  clear hf0 hpl hmi htr
  generalize W.field.chk=k at *
  go_enter Tryz.func56,Tryz.ntmps56
  go_wp2_with fail
  rw [HW1.out]
  refine hf.mono ?_;rintro e w2 ⟨rfl,hb2⟩
  go_wp2_with fail
  go_ret
  exact ⟨rfl,hb0.trans (hb2.mono hb0.size)⟩
end
section
open Go.RowKit
theorem HitG_ib_bool:(Tryz.prog.info? 4).map (λ i=>(i.zero,i.size,i.bytes))=some (some (.bool false),1,1):=by kernel_rfl
def countsC (f:Fld) (x y:Trp):Bool:=if (x.owner == y.owner || decide (reachOf x.kind<far x.spot y.spot))=true then false else seesV f x.spot y.spot
def idl (l:List Trp):List (Int×Int):=(List.range l.length).map λ i=>((l.getD i default).id,(i:Int))
theorem idl_take {l:List Trp} {k:Nat} (h:k<l.length):idl (l.take (k+1))=idl (l.take k)++ [((l.getD k default).id,(k:Int))]:=by
 have e1:(l.take (k+1)).length=k+1:=by rw [List.length_take];omega
 have e2:(l.take k).length=k:=by rw [List.length_take];omega
 unfold idl
 rw [e1,e2,List.range_succ,List.map_append]
 congr 1
 ·refine List.map_congr_left λ i hi=> ?_
  have hi:=List.mem_range.1 hi
  simp only [List.getD_eq_getElem?_getD,List.getElem?_take]
  rw [if_pos (by omega),if_pos hi]
 ·simp only [List.map_cons,List.map_nil,List.getD_eq_getElem?_getD,List.getElem?_take]
  rw [if_pos (by omega)]
theorem idl_mem {l:List Trp} {p:Int×Int} (h:p∈idl l):∃ i,i<l.length∧p=((l.getD i default).id,(i:Int)):=by
 obtain ⟨i,hi,rfl⟩:=List.mem_map.1 h
 exact ⟨i,List.mem_range.1 hi,rfl⟩
theorem getI_mem {l:List (Int×Int)} {k v:Int} (h:getI l k=some v):(k,v)∈l:=by
 unfold getI at h
 cases hf:l.find? (λ p=>p.1 == k) with
 | none=>rw [hf] at h;exact nomatch h
 | some p =>
  rw [hf] at h
  injection h with h
  have h1:=List.mem_of_find?_eq_some hf
  have h2:=List.find?_some hf
  have h3:p.1=k:=by simpa using h2
  rw [← h3,← h];exact h1
theorem getI_none {l:List (Int×Int)} {k:Int} (h:∀ p∈l,p.1≠k):getI l k=none:=by
 unfold getI
 rw [List.find?_eq_none.2 λ p hp=>by simpa using h p hp];rfl
theorem place_of {W:Wd} {x v:Int} (h:getI (idl W.troops) x=some v):∃ i,i<W.troops.length∧v=(i:Int)∧(W.troops.getD i default).id=x:=by
 obtain ⟨i,hi,he⟩:=idl_mem (getI_mem h)
 injection he with h1 h2
 exact ⟨i,hi,h2,h1.symm⟩
theorem place_at {W:Wd} (hG:Good W) (x:Int) (h:(getI (idl W.troops) x).isSome=true):((getI (idl W.troops) x).getD 0).toNat<W.troops.length∧0≤(getI (idl W.troops) x).getD 0:=by
 cases hg:getI (idl W.troops) x with
 | none=>rw [hg] at h;exact nomatch h
 | some v =>
  obtain ⟨i,hi,hv,_⟩:=place_of hg
  show v.toNat<_∧0≤v
  omega
theorem place_pos (W:Wd) (x:Int):0≤(getI (idl W.troops) x).getD 0:=by
 cases hg:getI (idl W.troops) x with
 | none=>exact Int.le_refl _
 | some v=>obtain ⟨i,hi,hv,_⟩:=place_of hg;show 0≤v;omega
theorem Good.ids_lt {W:Wd} (hG:Good W) {i j:Nat} (hij:i<j) (hj:j<W.troops.length):(W.troops.getD i default).id<(W.troops.getD j default).id:=by
 induction j with
 | zero=>omega
 | succ j ih =>
  obtain ⟨t,ht⟩:=get_of hj
  have h1:=(hG.ids (j+1) t ht).1
  have h2:W.lastId (j+1)=(W.troops.getD j default).id:=by
   unfold Wd.lastId
   simp
  have e1:W.troops.getD (j+1) default=t:=by rw [List.getD_eq_getElem?_getD,ht];rfl
  rw [e1]
  rcases Nat.lt_succ_iff_lt_or_eq.1 hij with h | rfl
  ·have:=ih h (by omega);omega
  ·omega
theorem place_new {W:Wd} (hG:Good W) {k:Nat} (hk:k<W.troops.length):getI (idl (W.troops.take k)) (W.troops.getD k default).id=none:=by
 refine getI_none λ p hp=> ?_
 obtain ⟨i,hi,rfl⟩:=idl_mem hp
 rw [List.length_take] at hi
 have h1:=hG.ids_lt (i:=i) (j:=k) (by omega) hk
 have h2:(W.troops.take k).getD i default=W.troops.getD i default:=by
  simp only [List.getD_eq_getElem?_getD,List.getElem?_take]
  rw [if_pos (by omega)]
 show ((W.troops.take k).getD i default).id≠_
 rw [h2];omega
theorem Good.nearD {W:Wd} (hG:Good W) (i:Nat): -1000≤(W.troops.getD i default).spot.x∧(W.troops.getD i default).spot.x≤1000∧ -1000≤(W.troops.getD i default).spot.y∧(W.troops.getD i default).spot.y≤1000:=by
 rw [List.getD_eq_getElem?_getD]
 cases ht:W.troops[i]? with
 | none=>exact ⟨by decide,by decide,by decide,by decide⟩
 | some t =>
  obtain ⟨i1,i2,i3,i4,i5,i6⟩:=Fld.idx hG.field (Fld.ground_in (hG.troops i t ht).ground)
  obtain ⟨y1,y2,y3,y4,_,_⟩:=Fld.good hG.field
  show -1000≤t.spot.x∧t.spot.x≤1000∧ -1000≤t.spot.y∧t.spot.y≤1000
  omega
def blowNo (W:Wd) (s:List Bool×List Int) (b:Blw):Bool :=
 (((!(getI (idl W.troops) b.who).isSome || !(getI (idl W.troops) b.whom).isSome) || s.1.getD ((getI (idl W.troops) b.who).getD 0).toNat false) || !countsC W.field (W.troops.getD ((getI (idl W.troops) b.who).getD 0).toNat default) (W.troops.getD ((getI (idl W.troops) b.whom).getD 0).toNat default))
def blow (W:Wd) (s:List Bool×List Int) (b:Blw):List Bool×List Int :=
 if blowNo W s b=true then s
 else (s.1.set ((getI (idl W.troops) b.who).getD 0).toNat true,s.2.set ((getI (idl W.troops) b.whom).getD 0).toNat (s.2.getD ((getI (idl W.troops) b.whom).getD 0).toNat 0+harmOf (W.troops.getD ((getI (idl W.troops) b.who).getD 0).toNat default).kind))
theorem blow_yes {W:Wd} {s:List Bool×List Int} {b:Blw} (h:blowNo W s b=false):blow W s b=(s.1.set ((getI (idl W.troops) b.who).getD 0).toNat true,s.2.set ((getI (idl W.troops) b.whom).getD 0).toNat (s.2.getD ((getI (idl W.troops) b.whom).getD 0).toNat 0+harmOf (W.troops.getD ((getI (idl W.troops) b.who).getD 0).toNat default).kind)):=by
 unfold blow;rw [h];rfl
theorem blow_no {W:Wd} {s:List Bool×List Int} {b:Blw} (h:blowNo W s b=true):blow W s b=s:=by unfold blow;rw [h];rfl
def blows (W:Wd) (l:List Blw):List Bool×List Int:=l.foldl (blow W) (List.replicate W.troops.length false,List.replicate W.troops.length 0)
theorem blows_app (W:Wd) (l:List Blw) (b:Blw):blows W (l++ [b])=blow W (blows W l) b:=by unfold blows;rw [List.foldl_append];rfl
theorem blows_take (W:Wd) {l:List Blw} {k:Nat} (h:k<l.length):blows W (l.take (k+1))=blow W (blows W (l.take k)) (l.getD k default):=by
 rw [List.take_succ_eq_append_getElem h,blows_app,List.getD_eq_getElem?_getD,List.getElem?_eq_getElem h];rfl
theorem harm_bd (k:Int):0≤harmOf k∧harmOf k≤4:=by unfold harmOf;split<;>(try split)<;>omega
def BlowInv (n m:Nat) (s:List Bool×List Int):Prop:=s.1.length=n∧s.2.length=n∧∀ j,0≤s.2.getD j 0∧s.2.getD j 0≤4 * m
theorem blow_inv (W:Wd) {n m:Nat} {s:List Bool×List Int} (b:Blw) (h:BlowInv n m s):BlowInv n (m+1) (blow W s b):=by
 obtain ⟨h1,h2,h3⟩:=h
 cases hb:blowNo W s b with
 | true=>rw [blow_no hb];exact ⟨h1,h2,λ j=>by have:=h3 j;omega⟩
 | false =>
  rw [blow_yes hb]
  refine ⟨by rw [List.length_set];exact h1,by rw [List.length_set];exact h2,λ j=> ?_⟩
  have hj:=h3 j
  have hx:=harm_bd (W.troops.getD ((getI (idl W.troops) b.who).getD 0).toNat default).kind
  have hm:=h3 ((getI (idl W.troops) b.whom).getD 0).toNat
  show 0≤(s.2.set _ _).getD j 0∧(s.2.set _ _).getD j 0≤_
  generalize ((getI (idl W.troops) b.whom).getD 0).toNat=i at *
  generalize harmOf _=q at *
  rw [List.getD_eq_getElem?_getD] at hj
  rw [List.getD_eq_getElem?_getD,List.getElem?_set]
  split
  ·split
   ·rw [Option.getD_some];omega
   ·rw [Option.getD_none];omega
  ·omega
theorem blow_invs (W:Wd) {n:Nat}:∀ (l:List Blw) {m:Nat} {s:List Bool×List Int},BlowInv n m s→BlowInv n (m+l.length) (l.foldl (blow W) s)
 | [],m,s,h=>h
 | b::l,m,s,h=>by
  have:=blow_invs W l (blow_inv W b h)
  rw [Nat.add_assoc,Nat.add_comm 1] at this
  exact this
theorem blows_bd (W:Wd) (l:List Blw):(blows W l).1.length=W.troops.length∧(blows W l).2.length=W.troops.length∧∀ j,0≤(blows W l).2.getD j 0∧(blows W l).2.getD j 0≤4 * l.length:=by
 have h0:BlowInv W.troops.length 0 (List.replicate W.troops.length false,List.replicate W.troops.length 0):=by
  refine ⟨List.length_replicate,List.length_replicate,λ j=> ?_⟩
  have:(List.replicate W.troops.length (0:Int)).getD j 0=0:=by
   rw [List.getD_eq_getElem?_getD,List.getElem?_replicate];split<;>rfl
  show 0≤(List.replicate W.troops.length (0:Int)).getD j 0∧(List.replicate W.troops.length (0:Int)).getD j 0≤_
  rw [this];decide
 obtain ⟨h1,h2,h3⟩:=blow_invs W l h0
 refine ⟨h1,h2,λ j=> ?_⟩
 have:=h3 j
 rw [Nat.zero_add] at this
 exact this
def blowE (W:Wd) (l:List Blw):Int:=if W.chk≠0 then W.chk else if 200<l.length then 2 else 0
def harmW (W:Wd) (l:List Blw):List Int:=if blowE W l≠0 then [] else (blows W l).2
theorem blow_none {W:Wd} {l:List Blw} {w w1:World} {v:Int} (h:blowE W l=v) (hv:v≠0) (x:Ext w w1):∃ A c,(Ending.returned (.tuple #[.slice none 0 0, .int .i64 v])= .returned (.tuple #[.slice A (harmW W l).length c, .int .i64 (blowE W l)]))∧repI.SOwn 3 8 w1 w.heap.size (Rep.blkOf A) A c (harmW W l)∧Ext w w1:=by
 have e:harmW W l= []:=by unfold harmW;rw [h,if_pos hv]
 rw [e,h]
 exact ⟨none,0,rfl,Rep.SOwn.nil _,x⟩
theorem blow_some {W:Wd} {l:List Blw} (h:W.chk=0) (h2:¬ (200:Int)<l.length):blowE W l=0∧harmW W l=(blows W l).2:=by
 have e:blowE W l=0:=by unfold blowE;rw [if_neg (by simpa using h),if_neg (by omega)]
 exact ⟨e,by unfold harmW;rw [e];rfl⟩
theorem counts_any (a:Wd.At) (W:Wd) (x y:Trp) (w:World) (hW:Wd.Has w a W) (h: -1000≤x.spot.x∧x.spot.x≤1000∧ -1000≤x.spot.y∧x.spot.y≤1000) (h2: -1000≤y.spot.x∧y.spot.x≤1000∧ -1000≤y.spot.y∧y.spot.y≤1000):
  Calls Tryz.prog 134 #[.agg ((Wd.cells a W).toArray), .agg #[.int .i64 x.id, .int .i64 x.owner, .int .i64 x.kind, .int .i64 x.spot.x, .int .i64 x.spot.y, .int .i64 x.life, .int .i64 x.load], .agg #[.int .i64 y.id, .int .i64 y.owner, .int .i64 y.kind, .int .i64 y.spot.x, .int .i64 y.spot.y, .int .i64 y.life, .int .i64 y.load]] w (λ e w'=>e= .returned (.bool (countsC W.field x y))∧Ext w w'):=by
 refine calls_W (n:=51) Tryz.func134 rfl rfl rfl ?_
 refine sg<|bx rfl rfl rfl rfl λ w_1 b_2 x_3 l_4 B_5=> ?_
 have:=x_3.size
 have z_1:=eT (Ext.rf w) x_3
 have q_7:=B_5.lt
 refine bx rfl rfl rfl rfl λ w_8 b_9 x_10 l_11 B_12=> ?_
 have:=x_10.size
 have z_8:=eT z_1 x_10
 have q_14:=B_12.lt
 refine bx rfl rfl rfl rfl λ w_15 b_16 x_17 l_18 B_19=> ?_
 have:=x_17.size
 have z_15:=eT z_8 x_17
 have q_21:=B_19.lt
 refine va rfl<|nK<|sg<|vL (fa eF52 rfl)<| ?_
 have B_12:=B_12.later x_17
 refine vL (ld rfl (B_12.one eF1 rfl))<|ca eF53 rfl rfl ((kind_any (x.kind) _).mono ?_)
 rintro e w_22 ⟨rfl,x_23⟩
 refine ⟨_,rfl, ?_⟩
 have:=x_23.size
 have z_22:=eT z_15 x_23
 refine vm rfl<|vL (ex rfl rfl)<|vL (ex rfl rfl)<|al rfl eF54 rfl rfl λ w_25 b_26 x_27 l_28 B_29=> ?_
 have:=x_27.size
 have z_25:=eT z_22 x_27
 have q_31:=B_29.lt
 refine st (new:= [.int .i64 (Wd.lifeOf x.kind), .int .i64 (reachOf x.kind), .int .i64 (harmOf x.kind), .int .i64 (Wd.priceOf x.kind)]) rfl rfl B_29 rfl eF55 rfl rfl rfl λ w_32 m_33 B_29=> ?_
 have:=m_33.size
 have z_32:=Ext.mod z_25 m_33 (ge1 (by omega))
 have:=m_33.size
 refine va rfl<|nK<|sg<|vL (fa eF56 rfl)<| ?_
 have B_12:=B_12.later (eT x_23 x_27)
 have B_12:=B_12.mod m_33 (nm1 (by omega))
 refine vL (ld rfl (B_12.par [.int .i64 x.spot.x, .int .i64 x.spot.y] eF3 eF4 rfl))<|vL (fa eF56 rfl)<| ?_
 have B_19:=B_19.later (eT x_23 x_27)
 have B_19:=B_19.mod m_33 (nm1 (by omega))
 refine vL (ld rfl (B_19.par [.int .i64 y.spot.x, .int .i64 y.spot.y] eF3 eF4 rfl))<|ca eF31 rfl rfl ((apart_in x.spot y.spot _ (by omega) (by omega)).mono ?_)
 rintro e w_36 ⟨rfl,x_37⟩
 refine ⟨_,rfl, ?_⟩
 have:=x_37.size
 have z_36:=eT z_32 x_37
 refine vm rfl<|vL (ex rfl rfl)<|vL (ex rfl rfl)<|vL (ex rfl rfl)<|va rfl<|va rfl<|va rfl<|nK<|sq<|sg<|vL (fa eF57 rfl)<| ?_
 have B_12:=B_12.later x_37
 refine vL (ld rfl (B_12.one eF1 rfl))<|vL (fa eF57 rfl)<| ?_
 have B_19:=B_19.later x_37
 refine vL (ld rfl (B_19.one eF1 rfl))<|vL (beq rfl rfl)<|vm rfl<|vQ rfl rfl rfl rfl (λ hc=>mv rfl) rfl<|vQ rfl rfl rfl rfl (λ hc=>fa eF58 rfl) rfl<| ?_
 have B_29:=B_29.later x_37
 refine vQ rfl rfl rfl rfl (λ hc=>ld (gt hc rfl) (B_29.one eF1 rfl)) rfl<|vQ rfl rfl rfl rfl (λ hc=>bgt (gt hc rfl) (gt hc rfl)) rfl<|vL (pO rfl rfl rfl rfl)<|nK<| ?_
 refine cb rfl (λ h_39=> ?_) (λ h_39=> ?_)
 ·refine sg<|va rfl<|nK<|rt<|tT<|tR (.tmp rfl .nil)<| ?_
  exact ⟨by unfold countsC;rw [h_39];rfl,z_36⟩
 ·refine sK<|sg<|vL (fa eF59 rfl)<| ?_
  have B_5:=B_5.later (eT x_10 (eT x_17 (eT x_23 x_27)))
  have B_5:=B_5.mod m_33 (nm1 (by omega))
  have B_5:=B_5.later x_37
  refine vL (ld rfl (B_5.par [.int .i64 W.field.wide, .int .i64 W.field.high, .slice a.P W.field.places.length a.p] eF23 eF24 rfl))<|vL (fa eF56 rfl)<|vL (ld rfl (B_12.par [.int .i64 x.spot.x, .int .i64 x.spot.y] eF3 eF4 rfl))<|vL (fa eF56 rfl)<|vL (ld rfl (B_19.par [.int .i64 y.spot.x, .int .i64 y.spot.y] eF3 eF4 rfl))<|ca eF60 rfl rfl ((sees_any W.field x.spot y.spot _ _ _ (hW.P.keep z_36)).mono ?_)
  rintro e w_40 ⟨rfl,x_41⟩
  refine ⟨_,rfl, ?_⟩
  have:=x_41.size
  have z_40:=eT z_36 x_41
  refine vm rfl<|vL (ex rfl rfl)<|vL (ex rfl rfl)<|va rfl<|va rfl<|nK<|sg<|vm rfl<|va rfl<|nK<|rt<|tR (.tmp rfl .nil)<| ?_
  exact ⟨by unfold countsC;rw [h_39];rfl,z_40⟩
theorem blows_any (a:Wd.At) (W:Wd) (l:List Blw) (A:Option Addr) (c:Nat) (w:World) (hW:Wd.Has w a W) (hl:Blw.rep.SHas 16 w A c l):
  Calls Tryz.prog 95 #[.agg ((Wd.cells a W).toArray), .slice A l.length c] w (λ e w'=>∃ A c,e= .returned (.tuple #[.slice A (harmW W l).length c, .int .i64 (blowE W l)])∧repI.SOwn 3 8 w' w.heap.size (Rep.blkOf A) A c (harmW W l)∧Ext w w'):=by
 refine calls_W (n:=120) Tryz.func95 rfl rfl rfl ?_
 refine sg<|bx rfl rfl rfl rfl λ w_1 b_2 x_3 l_4 B_5=> ?_
 have:=x_3.size
 have z_1:=eT (Ext.rf w) x_3
 have q_7:=B_5.lt
 refine va rfl<|va rfl<|nK<|sq<|sg<|vL (ld rfl (B_5.all eF61 eF62))<|ca eF63 rfl rfl ((check_any a W _ (hW.keep z_1)).mono ?_)
 rintro e w_8 ⟨rfl,x_9⟩
 refine ⟨_,rfl, ?_⟩
 have:=x_9.size
 have z_8:=eT z_1 x_9
 refine va rfl<|nK<|sg<|vm rfl<|vL (bne rfl rfl)<|nK<| ?_
 refine cne rfl (λ h_11=> ?_) (λ h_11=> ?_)
 ·refine sg<|vm rfl<|va rfl<|va rfl<|nK<|rt<|tT<|tR (.tmp rfl (.tmp rfl .nil))<| ?_
  exact blow_none (by unfold blowE;rw [if_pos h_11]) h_11 z_8
 ·have hG:=Good.of_chk h_11
  have hnt:=hG.nt
  have hnr:=λ i=>hG.nearD i
  have hidx:=λ x=>place_at hG x
  have hpos:=λ x=>place_pos W x
  have hll:=hl.len_le
  refine sK<|sq<|sg<|vm rfl<|vL (ln Tryz.underlying123 rfl)<|vL (bgt rfl rfl)<|nK<| ?_
  refine clt rfl (λ h_12=> ?_) (λ h_12=> ?_)
  ·refine sg<|va rfl<|va rfl<|nK<|rt<|tT<|tR (.tmp rfl (.tmp rfl .nil))<| ?_
   exact blow_none (by unfold blowE;rw [if_neg (by simpa using h_11),if_pos (by omega)]) (by decide) z_8
  ·refine sK<|sg<|mm rfl λ w_13 r_14 x_15 l_16 M_17=> ?_
   have:=x_15.size
   have z_13:=eT z_8 x_15
   have q_19:=M_17.lt
   refine va rfl<|nK<|sq<|sg<|vL (fa eF64 rfl)<| ?_
   have B_5:=B_5.later (eT x_9 x_15)
   refine vL (ld rfl (B_5.one eF65 rfl))<|vL (ln Tryz.underlying26 rfl)<|vm rfl<|nK<|bk<| ?_
   refine lp (λ mI EI wI=>∃ k:Nat,EI= [(1, .slice A l.length c),(2, .pointer (some ⟨b_2,0,none⟩)),(4, .slice none 0 0),(5, .int .i64 0),(7, .map (some r_14)),(30, .slice a.T W.troops.length a.t),(31, .int .i64 (W.troops.length:Int)),(32, .int .i64 (k:Int))]∧mI=W.troops.length - k∧Ext w wI∧Blk wI b_2 (Wd.cells a W) 28 (0,0)∧MapI wI r_14 (idl (W.troops.take k))∧(k≤W.troops.length)) _ _ ⟨0,rfl,rfl,z_13,B_5,M_17,by omega⟩ (.cons rfl (.cons rfl (.cons rfl (.cons rfl (.cons rfl (.cons rfl (.cons rfl (.cons (loI rfl (by first | omega | rfl | (simp<;>omega))) .nil)))))))) ?_
   rintro m_21 E_22 w_20 ⟨k,rfl,rfl,z_20,B_5,MP,hk⟩
   have:=z_20.size
   have q_24:=B_5.lt
   have q_25:=MP.lt
   refine sg<|vL (blt rfl rfl)<|nK<|sq<| ?_
   refine clt rfl (λ h_26=> ?_) (λ h_26=> ?_)
   ·refine sK<|sq<|bk<|sg<|vm rfl<|vL (iA k Tryz.underlying26 eF66 rfl rfl ((hW.T.keep z_20).adr (zl k (by have p1:=hpos (l.getD k default).who;have p2:=hpos (l.getD k default).whom;omega))) rfl (by have p1:=hpos (l.getD k default).who;have p2:=hpos (l.getD k default).whom;omega))<|vL (ld rfl (Rep.SHas.elt hcT ((hW.T.keep z_20).adh (zl k (by have p1:=hpos (l.getD k default).who;have p2:=hpos (l.getD k default).whom;omega))) (get_d (l:=W.troops) (u:=default) (by have p1:=hpos (l.getD k default).who;have p2:=hpos (l.getD k default).whom;omega)) eF67 eF66))<|al rfl eF68 rfl rfl λ w_27 b_28 x_29 l_30 B_31=> ?_
    have:=x_29.size
    have z_27:=eT z_20 x_29
    have q_33:=B_31.lt
    refine va rfl<|st (new:= [.int .i64 ((W.troops.getD k default).id), .int .i64 ((W.troops.getD k default).owner), .int .i64 ((W.troops.getD k default).kind), .int .i64 ((W.troops.getD k default).spot.x), .int .i64 ((W.troops.getD k default).spot.y), .int .i64 ((W.troops.getD k default).life), .int .i64 ((W.troops.getD k default).load)]) rfl rfl B_31 rfl eF66 rfl rfl rfl λ w_34 m_35 B_31=> ?_
    have:=m_35.size
    have z_34:=Ext.mod z_27 m_35 (ge1 (by omega))
    have:=m_35.size
    refine nK<|rg<|vm rfl<|vL (fa eF69 rfl)<|vL (ld rfl (B_31.one eF1 rfl))<|vm rfl<| ?_
    have MP:=MP.later x_29
    have MP:=MP.mod m_35 (nm1 (by omega))
    refine mu Tryz.underlying167 Tryz.underlying3 MP (place_new hG (by omega)) rfl rfl rfl λ w_38 m_39 MP=> ?_
    have:=m_39.size
    have z_38:=Ext.mod z_34 m_39 (ge1 (by omega))
    have:=m_39.size
    refine nl<|nB<|nT<|rg<|vL (bad rfl rfl (inI (by have p1:=hpos (l.getD k default).who;have p2:=hpos (l.getD k default).whom;omega)))<|vm rfl<|nl<| ?_
    have B_5:=B_5.later x_29
    have B_5:=B_5.mod m_35 (nm1 (by omega))
    have B_5:=B_5.mod m_39 (nm1 (by omega))
    exact nI _ _ ⟨k+1,rfl,rfl,z_38,B_5,(by rw [idl_take (by omega)];exact MP),by omega⟩ (by omega) (.cons rfl (.cons rfl (.cons rfl (.cons rfl (.cons rfl (.cons rfl (.cons rfl (.cons (loI rfl (by first | omega | rfl | (simp<;>omega))) .nil))))))))
   ·refine xt<|xT<|xK<|xB<|nT<|sg<|vL (fa eF64 rfl)<|vL (ld rfl (B_5.one eF65 rfl))<|vL (ln Tryz.underlying26 rfl)<|mO (R:=repI) (by_:=8) (B:=w.heap.size) (c:=W.troops.length) (zv:=(.int .i64 0)) (q:=0) Rep.flat_plain Tryz.underlying22 info_int rfl rfl (λ j u h=>raw0I j u h) (λ _=>⟨rfl,okI_iff.2 (by decide)⟩) rfl rfl rfl (by omega) (by omega) (by omega) λ w_42 b_43 x_44 l_45 O_46=> ?_
    have:=x_44.size
    have z_42:=eT z_20 x_44
    have u_48:=λ q hq=>(O_46.lt q hq).2
    have lo_49:∀ q∈Rep.blkOf (some ⟨b_43,0,none⟩),b_43≤q:=λ q hq=>Nat.le_of_eq (List.mem_singleton.1 hq).symm
    refine va rfl<|nK<|sg<|vL (fa eF64 rfl)<| ?_
    have B_5:=B_5.later x_44
    refine vL (ld rfl (B_5.one eF65 rfl))<|vL (ln Tryz.underlying26 rfl)<|mO (R:=repB) (by_:=1) (B:=w.heap.size) (c:=W.troops.length) (zv:=(.bool false)) (q:=false) Rep.flat_plain Tryz.underlying58 HitG_ib_bool rfl rfl (λ j u h=>raw0B j u h) (λ _=>⟨rfl,trivial⟩) rfl rfl rfl (by omega) (by omega) (by omega) λ w_50 b_51 x_52 l_53 O_54=> ?_
    have:=x_52.size
    have z_50:=eT z_42 x_52
    have u_56:=λ q hq=>(O_54.lt q hq).2
    have lo_57:∀ q∈Rep.blkOf (some ⟨b_51,0,none⟩),b_51≤q:=λ q hq=>Nat.le_of_eq (List.mem_singleton.1 hq).symm
    refine va rfl<|nK<|sq<|sg<|vm rfl<|vL (ln Tryz.underlying123 rfl)<|vm rfl<|nK<|bk<| ?_
    have MP:=MP.later (eT x_44 x_52)
    have O_46:=O_46.later x_52
    have B_5:=B_5.later x_52
    refine lp (λ mI EI wI=>∃ k:Nat,EI= [(2, .pointer (some ⟨b_2,0,none⟩)),(4, .slice none 0 0),(5, .int .i64 0),(7, .map (some r_14)),(10, .slice (some ⟨b_43,0,none⟩) W.troops.length W.troops.length),(11, .slice (some ⟨b_51,0,none⟩) W.troops.length W.troops.length),(50, .slice A l.length c),(51, .int .i64 (l.length:Int)),(52, .int .i64 (k:Int))]∧mI=l.length - k∧Ext w wI∧Blk wI b_2 (Wd.cells a W) 28 (0,0)∧MapI wI r_14 (idl W.troops)∧repI.SOwn 3 8 wI w.heap.size (Rep.blkOf (some ⟨b_43,0,none⟩)) (some ⟨b_43,0,none⟩) W.troops.length ((blows W (l.take k)).2)∧repB.SOwn 4 1 wI w.heap.size (Rep.blkOf (some ⟨b_51,0,none⟩)) (some ⟨b_51,0,none⟩) W.troops.length ((blows W (l.take k)).1)∧(k≤l.length)∧(∀ q∈Rep.blkOf (some ⟨b_43,0,none⟩),q=b_2→False)∧(∀ q∈Rep.blkOf (some ⟨b_43,0,none⟩),q=r_14→False)∧(∀ q∈Rep.blkOf (some ⟨b_51,0,none⟩),q=b_2→False)∧(∀ q∈Rep.blkOf (some ⟨b_51,0,none⟩),q=r_14→False)∧(∀ q∈Rep.blkOf (some ⟨b_51,0,none⟩),q∈Rep.blkOf (some ⟨b_43,0,none⟩)→False)) _ _ ⟨0,rfl,rfl,z_50,B_5,(by have e:k=W.troops.length:=(by omega);rw [e,List.take_length] at MP;exact MP),O_46,O_54,by omega,(λ q hq hb=>by (have:=lo_49 q hq;omega)),(λ q hq hb=>by (have:=lo_49 q hq;omega)),(λ q hq hb=>by (have:=lo_57 q hq;omega)),(λ q hq hb=>by (have:=lo_57 q hq;omega)),(λ q hq hb=>by (have:=lo_57 q hq;(have:=u_48 q hb;omega)))⟩ (.cons rfl (.cons rfl (.cons rfl (.cons rfl (.cons rfl (.cons rfl (.cons rfl (.cons rfl (.cons (loI rfl (by first | omega | rfl | (simp<;>omega))) .nil))))))))) ?_
    rintro m_64 E_65 w_63 ⟨k,rfl,rfl,z_63,B_5,MP,OH,OB,hk,d_58,d_59,d_60,d_61,d_62⟩
    have:=z_63.size
    have q_67:=B_5.lt
    have q_68:=MP.lt
    have u_69:=λ q hq=>(OH.lt q hq).2
    have u_70:=λ q hq=>(OB.lt q hq).2
    obtain ⟨hb1,hb2,hb3⟩:=blows_bd W (l.take k)
    have hb4:(l.take k).length≤k:=List.length_take_le k l
    refine sg<|vL (blt rfl rfl)<|nK<|sq<| ?_
    refine clt rfl (λ h_71=> ?_) (λ h_71=> ?_)
    ·refine sK<|sq<|bk<|sg<|vL (iA k Tryz.underlying123 eF70 rfl rfl ((hl.keep z_63).adr (zl k (by have p1:=hpos (l.getD k default).who;have p2:=hpos (l.getD k default).whom;omega))) rfl (by have p1:=hpos (l.getD k default).who;have p2:=hpos (l.getD k default).whom;omega))<|vL (ld rfl (Rep.SHas.elt hcW ((hl.keep z_63).adh (zl k (by have p1:=hpos (l.getD k default).who;have p2:=hpos (l.getD k default).whom;omega))) (get_d (l:=l) (u:=default) (by have p1:=hpos (l.getD k default).who;have p2:=hpos (l.getD k default).whom;omega)) eF71 eF70))<|al rfl eF72 rfl rfl λ w_72 b_73 x_74 l_75 B_76=> ?_
     have:=x_74.size
     have z_72:=eT z_63 x_74
     have q_78:=B_76.lt
     refine st (new:= [.int .i64 ((l.getD k default).who), .int .i64 ((l.getD k default).whom)]) rfl rfl B_76 rfl eF70 rfl rfl rfl λ w_79 m_80 B_76=> ?_
     have:=m_80.size
     have z_79:=Ext.mod z_72 m_80 (ge1 (by omega))
     have:=m_80.size
     refine nK<|sg<|vm rfl<|vL (fa eF73 rfl)<|vL (ld rfl (B_76.one eF1 rfl))<| ?_
     have MP:=MP.later x_74
     have MP:=MP.mod m_80 (nm1 (by omega))
     refine vL (lk Tryz.underlying167 Tryz.underlying3 eF74 MP rfl rfl)<|vm rfl<|vL (ex rfl rfl)<|vL (ex rfl rfl)<|va rfl<|va rfl<|nK<|sg<|vm rfl<|vL (fa eF75 rfl)<|vL (ld rfl (B_76.one eF1 rfl))<|vL (lk Tryz.underlying167 Tryz.underlying3 eF74 MP rfl rfl)<|vm rfl<|vL (ex rfl rfl)<|vL (ex rfl rfl)<|va rfl<|va rfl<|nK<|sq<|sq<| ?_
     refine rd [(10,0),(13,0),(15,0),(18,0),(20,0),(23,0),(24,0)] [0,1,2,3,4,5,6,7,8,9,10,11,12,13,14,15,16,17,18,19,20,21,22,23,24,25,26] (by kernel_rfl) (by kernel_rfl) ?_
     refine fw1 rfl (λ _=>mv rfl)<|fw1 rfl (λ _=>nt rfl)<|fw1 rfl (λ _=>mv rfl)<|fW rfl rfl rfl rfl rfl rfl (λ hc _=>mv rfl) rfl<|fW rfl rfl rfl rfl rfl rfl (λ hc _=>nt (gt hc rfl)) rfl<|fw1 rfl (λ _=>pO rfl rfl rfl rfl)<|fw1 rfl (λ _=>mv rfl)<|fW rfl rfl rfl rfl rfl rfl (λ hc _=>mv rfl) rfl<|fW rfl rfl rfl rfl rfl rfl (λ hc _=>mv rfl) rfl<| ?_
     have OB:=OB.later x_74
     have OB:=OB.mod m_80 (fk1 u_70 (by omega))
     refine fW rfl rfl rfl rfl rfl rfl (λ hc _=>iA (((getI (idl W.troops) ((l.getD k default).who)).getD 0).toNat) Tryz.underlying58 eF76 (gt hc rfl) (gt hc rfl) (OB.has.adr (zl (((getI (idl W.troops) ((l.getD k default).who)).getD 0).toNat) (by (try rw [hb1]);simp only [bS] at hc;first | exact (hidx _ hc.1).1 | exact (hidx _ hc.2).1 | exact (hidx _ hc.1.1).1 | exact (hidx _ hc.1.2).1))) (by (try simp only [bS] at hc);have p1:=hpos (l.getD k default).who;have p2:=hpos (l.getD k default).whom;omega) (by (try rw [hb1]);simp only [bS] at hc;first | exact (hidx _ hc.1).1 | exact (hidx _ hc.2).1 | exact (hidx _ hc.1.1).1 | exact (hidx _ hc.1.2).1)) rfl<|fQ rfl rfl rfl rfl rfl rfl (λ hc _ x=>ld (gt hc rfl) (Rep.SHas.one' hcB ((OB.later x).has.adh (zl (((getI (idl W.troops) ((l.getD k default).who)).getD 0).toNat) (by (try rw [hb1]);simp only [bS] at hc;first | exact (hidx _ hc.1).1 | exact (hidx _ hc.2).1 | exact (hidx _ hc.1.1).1 | exact (hidx _ hc.1.2).1))) (get_d (l:=(blows W (l.take k)).1) (u:=false) (by (try rw [hb1]);simp only [bS] at hc;first | exact (hidx _ hc.1).1 | exact (hidx _ hc.2).1 | exact (hidx _ hc.1.1).1 | exact (hidx _ hc.1.2).1)) rfl eF77)) rfl<|fw1 rfl (λ _=>pO rfl rfl rfl rfl)<|fw1 rfl (λ _=>mv rfl)<| ?_
     have B_5:=B_5.later x_74
     have B_5:=B_5.mod m_80 (nm1 (by omega))
     refine fQ rfl rfl rfl rfl rfl rfl (λ hc _ x=>ld rfl ((B_5.later x).all eF61 eF62)) rfl<|fW rfl rfl rfl rfl rfl rfl (λ hc _=>fa eF64 rfl) rfl<|fQ rfl rfl rfl rfl rfl rfl (λ hc _ x=>ld (gt hc rfl) ((B_5.later x).one eF65 rfl)) rfl<|fW rfl rfl rfl rfl rfl rfl (λ hc _=>mv rfl) rfl<|fW rfl rfl rfl rfl rfl rfl (λ hc _=>iA (((getI (idl W.troops) ((l.getD k default).who)).getD 0).toNat) Tryz.underlying26 eF66 (gt hc rfl) (gt hc rfl) ((hW.T.keep z_79).adr (zl (((getI (idl W.troops) ((l.getD k default).who)).getD 0).toNat) (by (try rw [(rfl:W.troops.length=W.troops.length)]);simp only [bS] at hc;first | exact (hidx _ hc.1).1 | exact (hidx _ hc.2).1 | exact (hidx _ hc.1.1).1 | exact (hidx _ hc.1.2).1))) (by (try simp only [bS] at hc);have p1:=hpos (l.getD k default).who;have p2:=hpos (l.getD k default).whom;omega) (by (try rw [(rfl:W.troops.length=W.troops.length)]);simp only [bS] at hc;first | exact (hidx _ hc.1).1 | exact (hidx _ hc.2).1 | exact (hidx _ hc.1.1).1 | exact (hidx _ hc.1.2).1)) rfl<|fQ rfl rfl rfl rfl rfl rfl (λ hc _ x=>ld (gt hc rfl) (Rep.SHas.elt hcT ((hW.T.keep (eT z_79 x)).adh (zl (((getI (idl W.troops) ((l.getD k default).who)).getD 0).toNat) (by (try rw [(rfl:W.troops.length=W.troops.length)]);simp only [bS] at hc;first | exact (hidx _ hc.1).1 | exact (hidx _ hc.2).1 | exact (hidx _ hc.1.1).1 | exact (hidx _ hc.1.2).1))) (get_d (l:=W.troops) (u:=default) (by (try rw [(rfl:W.troops.length=W.troops.length)]);simp only [bS] at hc;first | exact (hidx _ hc.1).1 | exact (hidx _ hc.2).1 | exact (hidx _ hc.1.1).1 | exact (hidx _ hc.1.2).1)) eF67 eF66)) rfl<|fW rfl rfl rfl rfl rfl rfl (λ hc _=>fa eF64 rfl) rfl<|fQ rfl rfl rfl rfl rfl rfl (λ hc _ x=>ld (gt hc rfl) ((B_5.later x).one eF65 rfl)) rfl<|fW rfl rfl rfl rfl rfl rfl (λ hc _=>mv rfl) rfl<|fW rfl rfl rfl rfl rfl rfl (λ hc _=>iA (((getI (idl W.troops) ((l.getD k default).whom)).getD 0).toNat) Tryz.underlying26 eF66 (gt hc rfl) (gt hc rfl) ((hW.T.keep z_79).adr (zl (((getI (idl W.troops) ((l.getD k default).whom)).getD 0).toNat) (by (try rw [(rfl:W.troops.length=W.troops.length)]);simp only [bS] at hc;first | exact (hidx _ hc.1).1 | exact (hidx _ hc.2).1 | exact (hidx _ hc.1.1).1 | exact (hidx _ hc.1.2).1))) (by (try simp only [bS] at hc);have p1:=hpos (l.getD k default).who;have p2:=hpos (l.getD k default).whom;omega) (by (try rw [(rfl:W.troops.length=W.troops.length)]);simp only [bS] at hc;first | exact (hidx _ hc.1).1 | exact (hidx _ hc.2).1 | exact (hidx _ hc.1.1).1 | exact (hidx _ hc.1.2).1)) rfl<|fQ rfl rfl rfl rfl rfl rfl (λ hc _ x=>ld (gt hc rfl) (Rep.SHas.elt hcT ((hW.T.keep (eT z_79 x)).adh (zl (((getI (idl W.troops) ((l.getD k default).whom)).getD 0).toNat) (by (try rw [(rfl:W.troops.length=W.troops.length)]);simp only [bS] at hc;first | exact (hidx _ hc.1).1 | exact (hidx _ hc.2).1 | exact (hidx _ hc.1.1).1 | exact (hidx _ hc.1.2).1))) (get_d (l:=W.troops) (u:=default) (by (try rw [(rfl:W.troops.length=W.troops.length)]);simp only [bS] at hc;first | exact (hidx _ hc.1).1 | exact (hidx _ hc.2).1 | exact (hidx _ hc.1.1).1 | exact (hidx _ hc.1.2).1)) eF67 eF66)) rfl<|fC rfl rfl rfl rfl rfl rfl eF78 (λ hc=>ec (gt hc rfl) (ec (gt hc rfl) (ec (gt hc rfl) rfl))) (λ hc _ x=>counts_any a W ((W.troops.getD (((getI (idl W.troops) ((l.getD k default).who)).getD 0).toNat) default)) ((W.troops.getD (((getI (idl W.troops) ((l.getD k default).whom)).getD 0).toNat) default)) _ (hW.keep (eT z_79 x)) (hnr _) (hnr _)) rfl<|fW rfl rfl rfl rfl rfl rfl (λ hc _=>nt (gt hc rfl)) rfl<|fw1 rfl (λ _=>pO rfl rfl rfl rfl)<|fn λ w_83 x_84=> ?_
     have:=x_84.size
     have z_83:=eT z_79 x_84
     refine nT<| ?_
     refine cb rfl (λ h_86=> ?_) (λ h_86=> ?_)
     ·refine xt<|xT<|xB<|nT<|rg<|vL (bad rfl rfl (inI (by have p1:=hpos (l.getD k default).who;have p2:=hpos (l.getD k default).whom;omega)))<|vm rfl<|nl<| ?_
      have e1:blows W (l.take (k+1))=((blows W (l.take k)).1,(blows W (l.take k)).2):=by rw [blows_take W (by omega),blow_no h_86]
      have B_5:=B_5.later x_84
      have MP:=MP.later x_84
      have OH:=OH.later x_74
      have OH:=OH.mod m_80 (fk1 u_69 (by omega))
      have OH:=OH.later x_84
      have OB:=OB.later x_84
      exact nI _ _ ⟨k+1,rfl,rfl,z_83,B_5,MP,(by rw [e1];exact OH),(by rw [e1];exact OB),by omega,(λ q hq hb=>by (exact d_58 q hq hb)),(λ q hq hb=>by (exact d_59 q hq hb)),(λ q hq hb=>by (exact d_60 q hq hb)),(λ q hq hb=>by (exact d_61 q hq hb)),(λ q hq hb=>by (exact d_62 q hq hb))⟩ (by omega) (.cons rfl (.cons rfl (.cons rfl (.cons rfl (.cons rfl (.cons rfl (.cons rfl (.cons rfl (.cons (loI rfl (by first | omega | rfl | (simp<;>omega))) .nil)))))))))
     ·have hh:=h_86
      simp only [bS] at hh
      have i1:=(hidx _ hh.1.1.1).1
      have i2:=(hidx _ hh.1.1.2).1
      have w1:=hb3 (((getI (idl W.troops) ((l.getD k default).whom)).getD 0).toNat)
      have w2:=harm_bd (W.troops.getD (((getI (idl W.troops) ((l.getD k default).who)).getD 0).toNat) default).kind
      refine sK<|sg<|vL (fa eF64 rfl)<| ?_
      have B_5:=B_5.later x_84
      refine vL (ld rfl (B_5.one eF65 rfl))<|vm rfl<|vL (iA (((getI (idl W.troops) ((l.getD k default).who)).getD 0).toNat) Tryz.underlying26 eF66 rfl rfl ((hW.T.keep z_83).adr (zl (((getI (idl W.troops) ((l.getD k default).who)).getD 0).toNat) (by have p1:=hpos (l.getD k default).who;have p2:=hpos (l.getD k default).whom;omega))) (by have p1:=hpos (l.getD k default).who;have p2:=hpos (l.getD k default).whom;omega) (by have p1:=hpos (l.getD k default).who;have p2:=hpos (l.getD k default).whom;omega))<|vL (fa eF52 rfl)<|vL (ld rfl (Rep.SHas.fld hcT ((hW.T.keep z_83).adh (zl (((getI (idl W.troops) ((l.getD k default).who)).getD 0).toNat) (by have p1:=hpos (l.getD k default).who;have p2:=hpos (l.getD k default).whom;omega))) 2 (get_d (l:=W.troops) (u:=default) (by have p1:=hpos (l.getD k default).who;have p2:=hpos (l.getD k default).whom;omega)) rfl eF1))<|ca eF53 rfl rfl ((kind_any ((W.troops.getD (((getI (idl W.troops) ((l.getD k default).who)).getD 0).toNat) default).kind) _).mono ?_)
      rintro e w_87 ⟨rfl,x_88⟩
      refine ⟨_,rfl, ?_⟩
      have:=x_88.size
      have z_87:=eT z_83 x_88
      refine vm rfl<|vL (ex rfl rfl)<|vL (ex rfl rfl)<|al rfl eF54 rfl rfl λ w_90 b_91 x_92 l_93 B_94=> ?_
      have:=x_92.size
      have z_90:=eT z_87 x_92
      have q_96:=B_94.lt
      refine st (new:= [.int .i64 (Wd.lifeOf ((W.troops.getD (((getI (idl W.troops) ((l.getD k default).who)).getD 0).toNat) default).kind)), .int .i64 (reachOf ((W.troops.getD (((getI (idl W.troops) ((l.getD k default).who)).getD 0).toNat) default).kind)), .int .i64 (harmOf ((W.troops.getD (((getI (idl W.troops) ((l.getD k default).who)).getD 0).toNat) default).kind)), .int .i64 (Wd.priceOf ((W.troops.getD (((getI (idl W.troops) ((l.getD k default).who)).getD 0).toNat) default).kind))]) rfl rfl B_94 rfl eF55 rfl rfl rfl λ w_97 m_98 B_94=> ?_
      have:=m_98.size
      have z_97:=Ext.mod z_90 m_98 (ge1 (by omega))
      have:=m_98.size
      refine va rfl<|nK<|sg<|vm rfl<|vm rfl<| ?_
      have OB:=OB.later (eT x_84 (eT x_88 x_92))
      have OB:=OB.mod m_98 (fk1 u_70 (by omega))
      refine vL (iA (((getI (idl W.troops) ((l.getD k default).who)).getD 0).toNat) Tryz.underlying58 eF76 rfl rfl (OB.has.adr (zl (((getI (idl W.troops) ((l.getD k default).who)).getD 0).toNat) (by have p1:=hpos (l.getD k default).who;have p2:=hpos (l.getD k default).whom;omega))) (by have p1:=hpos (l.getD k default).who;have p2:=hpos (l.getD k default).whom;omega) (by have p1:=hpos (l.getD k default).who;have p2:=hpos (l.getD k default).whom;omega))<|so (q':=true) (j:=0) (i:=(((getI (idl W.troops) ((l.getD k default).who)).getD 0).toNat)) OB Rep.flat_bare (get_d (l:=(blows W (l.take k)).1) (u:=false) (by have p1:=hpos (l.getD k default).who;have p2:=hpos (l.getD k default).whom;omega)) rfl rfl rfl rfl (λ _ cs h=>by have ok_:=(show _∧_ from h).2;obtain rfl:=hcB h;exact ⟨rfl,trivial⟩) rfl rfl eF76 λ w_101 m_102 O_103=> ?_
      have:=m_102.size
      have z_101:=Ext.mod z_97 m_102 (λ q hq=>(OB.lt q hq).1)
      have:=m_102.size
      refine nK<| ?_
      refine rd [(3,0),(5,0),(8,3)] [0,1,2,3,4,5,6,7,8] (by kernel_rfl) (by kernel_rfl) ?_
      refine fw1 rfl (λ _=>mv rfl)<|fw1 rfl (λ _=>mv rfl)<| ?_
      have OH:=OH.later x_74
      have OH:=OH.mod m_80 (fk1 u_69 (by omega))
      have OH:=OH.later (eT x_84 (eT x_88 x_92))
      have OH:=OH.mod m_98 (fk1 u_69 (by omega))
      have OH:=OH.mod m_102 (λ q hq h=>by exfalso;(exact d_62 q h hq))
      refine fw1 rfl (λ _=>iA (((getI (idl W.troops) ((l.getD k default).whom)).getD 0).toNat) Tryz.underlying22 eF7 rfl rfl (OH.has.adr (zl (((getI (idl W.troops) ((l.getD k default).whom)).getD 0).toNat) (by have p1:=hpos (l.getD k default).who;have p2:=hpos (l.getD k default).whom;omega))) (by have p1:=hpos (l.getD k default).who;have p2:=hpos (l.getD k default).whom;omega) (by have p1:=hpos (l.getD k default).who;have p2:=hpos (l.getD k default).whom;omega))<|fq1 rfl (λ _ x=>ld rfl (Rep.SHas.one' hcI ((OH.later x).has.adh (zl (((getI (idl W.troops) ((l.getD k default).whom)).getD 0).toNat) (by have p1:=hpos (l.getD k default).who;have p2:=hpos (l.getD k default).whom;omega))) (get_d (l:=(blows W (l.take k)).2) (u:=0) (by have p1:=hpos (l.getD k default).who;have p2:=hpos (l.getD k default).whom;omega)) rfl eF1))<|fw1 rfl (λ _=>fa eF79 rfl)<| ?_
      have d_106:∀ q∈Rep.blkOf (some ⟨b_51,0,none⟩),q=b_91→False:=λ q hq hb=>by (have:=u_70 q hq;omega)
      have B_94:=B_94.mod m_102 (λ hq=>d_106 _ hq rfl)
      refine fq1 rfl (λ _ x=>ld rfl ((B_94.later x).one eF1 rfl))<|fw1 rfl (λ _=>bad rfl rfl (inI (by have p1:=hpos (l.getD k default).who;have p2:=hpos (l.getD k default).whom;omega)))<|fw1 rfl (λ _=>iA (((getI (idl W.troops) ((l.getD k default).whom)).getD 0).toNat) Tryz.underlying22 eF7 rfl rfl (OH.has.adr (zl (((getI (idl W.troops) ((l.getD k default).whom)).getD 0).toNat) (by have p1:=hpos (l.getD k default).who;have p2:=hpos (l.getD k default).whom;omega))) (by have p1:=hpos (l.getD k default).who;have p2:=hpos (l.getD k default).whom;omega) (by have p1:=hpos (l.getD k default).who;have p2:=hpos (l.getD k default).whom;omega))<|fb rfl rfl rfl λ w_107 x_108 Q hK=>so (q':=(((blows W (l.take k)).2).getD (((getI (idl W.troops) ((l.getD k default).whom)).getD 0).toNat) 0)+(harmOf ((W.troops.getD (((getI (idl W.troops) ((l.getD k default).who)).getD 0).toNat) default).kind))) (j:=0) (i:=(((getI (idl W.troops) ((l.getD k default).whom)).getD 0).toNat)) (OH.later x_108) Rep.flat_bare (get_d (l:=(blows W (l.take k)).2) (u:=0) (by have p1:=hpos (l.getD k default).who;have p2:=hpos (l.getD k default).whom;omega)) rfl rfl rfl rfl (λ _ cs h=>by have ok_:=(show _∧_ from h).2;obtain rfl:=hcI h;exact ⟨rfl,okI_iff.2 (by omega)⟩) rfl rfl eF7 λ w_109 m_110 O_111=>hK _ _ ?_
      have:=x_108.size
      have z_107:=eT z_101 x_108
      have:=m_110.size
      have z_109:=Ext.mod z_107 m_110 (λ q hq=>((OH.later x_108).lt q hq).1)
      have:=m_110.size
      refine fn λ w_115 x_116=> ?_
      have:=x_116.size
      have z_115:=eT z_109 x_116
      refine nB<|nT<|rg<|vL (bad rfl rfl (inI (by have p1:=hpos (l.getD k default).who;have p2:=hpos (l.getD k default).whom;omega)))<|vm rfl<|nl<| ?_
      have e1:blows W (l.take (k+1))=(((blows W (l.take k)).1).set (((getI (idl W.troops) ((l.getD k default).who)).getD 0).toNat) true,((blows W (l.take k)).2).set (((getI (idl W.troops) ((l.getD k default).whom)).getD 0).toNat) ((((blows W (l.take k)).2).getD (((getI (idl W.troops) ((l.getD k default).whom)).getD 0).toNat) 0)+(harmOf ((W.troops.getD (((getI (idl W.troops) ((l.getD k default).who)).getD 0).toNat) default).kind)))):=by rw [blows_take W (by omega),blow_yes h_86]
      have B_5:=B_5.later (eT x_88 x_92)
      have B_5:=B_5.mod m_98 (nm1 (by omega))
      have B_5:=B_5.mod m_102 (λ hq=>d_60 _ hq rfl)
      have B_5:=B_5.later x_108
      have B_5:=B_5.mod m_110 (λ hq=>d_58 _ hq rfl)
      have B_5:=B_5.later x_116
      have MP:=MP.later (eT x_84 (eT x_88 x_92))
      have MP:=MP.mod m_98 (nm1 (by omega))
      have MP:=MP.mod m_102 (λ hq=>d_61 _ hq rfl)
      have MP:=MP.later x_108
      have MP:=MP.mod m_110 (λ hq=>d_59 _ hq rfl)
      have MP:=MP.later x_116
      have O_111:=O_111.later x_116
      have O_103:=O_103.later x_108
      have O_103:=O_103.mod m_110 (λ q hq h=>by exfalso;(exact d_62 q hq h))
      have O_103:=O_103.later x_116
      exact nI _ _ ⟨k+1,rfl,rfl,z_115,B_5,MP,(by rw [e1];exact O_111),(by rw [e1];exact O_103),by omega,(λ q hq hb=>by (exact d_58 q hq hb)),(λ q hq hb=>by (exact d_59 q hq hb)),(λ q hq hb=>by (exact d_60 q hq hb)),(λ q hq hb=>by (exact d_61 q hq hb)),(λ q hq hb=>by (exact d_62 q hq hb))⟩ (by omega) (.cons rfl (.cons rfl (.cons rfl (.cons rfl (.cons rfl (.cons rfl (.cons rfl (.cons rfl (.cons (loI rfl (by first | omega | rfl | (simp<;>omega))) .nil)))))))))
    ·refine xt<|xT<|xK<|xB<|nT<|sg<|vm rfl<|va rfl<|va rfl<|nK<|rt<|tR (.tmp rfl (.tmp rfl .nil))<| ?_
     obtain ⟨r1,r2⟩:=blow_some h_11 h_12
     have e:k=l.length:=by omega
     rw [e,List.take_length] at OH
     rw [r1,r2]
     exact ⟨_,_,by rw [(blows_bd W l).2.1];rfl,OH,z_63⟩
end
end Go.Proofs.YtlikikpgmmkjbaaGreat
