import Derived.Test.YtlikikpgmmkjbaaGreatTroG
import Derived.Test.YtlikikpgmmkjbaaGreatBlw
set_option linter.unusedVariables false
set_option linter.unusedSimpArgs false
set_option maxRecDepth 100000
set_option maxHeartbeats 4000000
namespace Go.Proofs.YtlikikpgmmkjbaaGreat
open Tryz
section
open Go.RowKit
theorem yF (a:ae.b6) (W:ae) (w:World) (bs:ae.Has w a W):
  Calls prog 56 #[.agg (ae.cells a W).toArray] w λ e w'=>e= .returned (.int .i64 W.bh)∧Below w.heap.size w w':=by
 have q9:=λ aE fu V (h:ae.Has V a W)=>arp a W V h aE fu;have KW:=λ V (h:ae.Has V a W)=>ap5 a W V h;have nR:=λ aE fu tF V (h:ae.Has V a W)=>atU a W V h aE fu tF;obtain ⟨d',fa,fb,eE,ee,en,eR,fg,eX,eK⟩:=a;show Calls _ _ #[.agg #[.int .i64 W.field.wide, .int .i64 W.field.high, .slice d' W.field.aP.length en, .slice fa W.aY.length eR, .slice fb W.a_.length fg, .slice eE W.bm.length eX, .slice ee W.ag.length eK, .int .i64 W.next, .int .i64 W.now]] _ _;have cr:=jR w (.cells (ae.cells ⟨d',fa,fb,eE,ee,en,eR,fg,eX,eK⟩ W).toArray 28);have hP:=Lib.hid (aK.new w (ae.cells ⟨d',fa,fb,eE,ee,en,eR,fg,eX,eK⟩ W) 28 (0,0));have kO:=Lib.hid (bs.keep cr);obtain ⟨w0,hT⟩:∃ w0,Hid (w.alloc (.cells (ae.cells ⟨d',fa,fb,eE,ee,en,eR,fg,eX,eK⟩ W).toArray 28)=w0):=⟨_,Lib.hid rfl⟩;rw [hT.out] at cr kO;have hP:Hid (aK w0 w.heap.size (ae.cells ⟨d',fa,fb,eE,ee,en,eR,fg,eX,eK⟩ W) 28 (0,0)):=by rw [← hT.out];exact hP
 have hf:=XJ W.field d' en w0 kO.out.P;have nz:Hid (w.alloc (.cells #[.int .i64 W.field.wide, .int .i64 W.field.high, .slice d' W.field.aP.length en, .slice fa W.aY.length eR, .slice fb W.a_.length fg, .slice eE W.bm.length eX, .slice ee W.ag.length eK, .int .i64 W.next, .int .i64 W.now] 28)=w0):=by rw [← hT.out];rfl
 obtain ⟨bL,c1,c2,c3,c4,c5,c',dT,dS⟩:=ae.qt hP.out;clear bs;by_cases se:W.field.bh=0
 ·by_cases GA:8<W.aY.length∨100<W.ag.length
  ·rw [ae.V6 se GA];rw [se] at hf;have afr:=Lib.hid GA;clear GA se q9 KW nR;generalize W.field.aP.length=HD at *
   generalize W.aY.length=jn at *
   generalize W.a_.length=ns at *
   generalize W.bm.length=nm at *
   generalize W.ag.length=eo at *
   go_enter func56,ntmps56;go_wp2_with fail
   rw [nz.out];refine hf.mono ?_;rintro e cl ⟨rfl,bo⟩;have d3:=cell_later bo c3;have d6:=cell_later bo c';have key:decide ((8:Int)<(jn:Int))=true∨(decide ((8:Int)<(jn:Int))=false∧decide ((100:Int)<(eo:Int))=true):=by
    have:=afr.out;simp;omega
   clear bL c1 c2 c3 c4 c5 c' dT dS;rcases key with h | ⟨h,aa⟩
   all_goals
    go_wp2_with fail
    go_ret;exact ⟨Z,cr.trans (bo.mono cr.size)⟩
  ·rw [ae.Oc se GA];have fu:W.aY.length≤8:=by omega
   have tF:W.ag.length≤100:=by omega
   have q9:=q9 se fu;have nR:=nR se fu tF;rw [se] at hf;have g1:decide ((8:Int)<(W.aY.length:Int))=false:=by simp;omega
   have g2:decide ((100:Int)<(W.ag.length:Int))=false:=by simp;omega
   have AE:=Lib.hid (λ V (h:Below w0.heap.size w0 V)=>q9 V (kO.out.keep h));have CR:=Lib.hid (λ V (h:Below w0.heap.size w0 V)=>KW V (kO.out.keep h));have wO:=Lib.hid (λ V (h:Below w0.heap.size w0 V)=>nR V (kO.out.keep h));rw [ae.ahy] at AE CR wO;have AE:Hid (∀ V,Below w0.heap.size w0 V→Calls prog 89 #[.agg #[.int .i64 W.field.wide, .int .i64 W.field.high, .slice d' W.field.aP.length en, .slice fa W.aY.length eR, .slice fb W.a_.length fg, .slice eE W.bm.length eX, .slice ee W.ag.length eK, .int .i64 W.next, .int .i64 W.now]] V λ e w'=>e= .returned (.bool W.mn)∧Below V.heap.size V w'):=AE;have CR:Hid (∀ V,Below w0.heap.size w0 V→Calls prog 90 #[.agg #[.int .i64 W.field.wide, .int .i64 W.field.high, .slice d' W.field.aP.length en, .slice fa W.aY.length eR, .slice fb W.a_.length fg, .slice eE W.bm.length eX, .slice ee W.ag.length eK, .int .i64 W.next, .int .i64 W.now]] V λ e w'=>e= .returned (.bool W.na)∧Below V.heap.size V w'):=CR;have wO:Hid (∀ V,Below w0.heap.size w0 V→Calls prog 91 #[.agg #[.int .i64 W.field.wide, .int .i64 W.field.high, .slice d' W.field.aP.length en, .slice fa W.aY.length eR, .slice fb W.a_.length fg, .slice eE W.bm.length eX, .slice ee W.ag.length eK, .int .i64 W.next, .int .i64 W.now]] V λ e w'=>e= .returned (.bool W.iV)∧Below V.heap.size V w'):=wO;clear GA se q9 KW nR fu tF;generalize W.mn=r1 at *
   generalize W.na=r2 at *
   generalize W.iV=uC at *
   generalize W.field.aP.length=HD at *
   generalize W.aY.length=jn at *
   generalize W.a_.length=ns at *
   generalize W.bm.length=nm at *
   generalize W.ag.length=eo at *
   have kZ:=hf;clear hf;cases r1 with
   | false =>
    go_enter func56,ntmps56;go_wp2_with fail
    rw [nz.out];refine kZ.mono ?_;rintro e cl ⟨rfl,bo⟩;have bL:=cell_later bo bL;have c1:=cell_later bo c1;have c2:=cell_later bo c2;have c3:=cell_later bo c3;have c4:=cell_later bo c4;have c5:=cell_later bo c5;have c':=cell_later bo c';have dT:=cell_later bo dT;have dS:=cell_later bo dS;go_wp2_with fail
    refine (AE.out _ bo).mono ?_;rintro e w3 ⟨rfl,dj⟩;go_wp2_with fail
    go_ret;exact ⟨Z,cr.trans ((l0 bo dj).mono cr.size)⟩
   | true =>
    cases r2 with
    | false =>
     go_enter func56,ntmps56;go_wp2_with fail
     rw [nz.out];refine kZ.mono ?_;rintro e cl ⟨rfl,bo⟩;have bL:=cell_later bo bL;have c1:=cell_later bo c1;have c2:=cell_later bo c2;have c3:=cell_later bo c3;have c4:=cell_later bo c4;have c5:=cell_later bo c5;have c':=cell_later bo c';have dT:=cell_later bo dT;have dS:=cell_later bo dS;go_wp2_with fail
     refine (AE.out _ bo).mono ?_;rintro e w3 ⟨rfl,dj⟩;have oj:=l0 bo dj;have bL:=cell_later dj bL;have c1:=cell_later dj c1;have c2:=cell_later dj c2;have c3:=cell_later dj c3;have c4:=cell_later dj c4;have c5:=cell_later dj c5;have c':=cell_later dj c';have dT:=cell_later dj dT;have dS:=cell_later dj dS;go_wp2_with fail
     refine (CR.out _ oj).mono ?_;rintro e qq ⟨rfl,de⟩;go_wp2_with fail
     go_ret;exact ⟨Z,cr.trans ((l0 oj de).mono cr.size)⟩
    | true =>
     cases uC with
     | false =>
      go_enter func56,ntmps56;go_wp2_with fail
      rw [nz.out];refine kZ.mono ?_;rintro e cl ⟨rfl,bo⟩;have bL:=cell_later bo bL;have c1:=cell_later bo c1;have c2:=cell_later bo c2;have c3:=cell_later bo c3;have c4:=cell_later bo c4;have c5:=cell_later bo c5;have c':=cell_later bo c';have dT:=cell_later bo dT;have dS:=cell_later bo dS;go_wp2_with fail
      refine (AE.out _ bo).mono ?_;rintro e w3 ⟨rfl,dj⟩;have oj:=l0 bo dj;have bL:=cell_later dj bL;have c1:=cell_later dj c1;have c2:=cell_later dj c2;have c3:=cell_later dj c3;have c4:=cell_later dj c4;have c5:=cell_later dj c5;have c':=cell_later dj c';have dT:=cell_later dj dT;have dS:=cell_later dj dS;go_wp2_with fail
      refine (CR.out _ oj).mono ?_;rintro e qq ⟨rfl,de⟩;have pa:=l0 oj de;have bL:=cell_later de bL;have c1:=cell_later de c1;have c2:=cell_later de c2;have c3:=cell_later de c3;have c4:=cell_later de c4;have c5:=cell_later de c5;have c':=cell_later de c';have dT:=cell_later de dT;have dS:=cell_later de dS;go_wp2_with fail
      refine (wO.out _ pa).mono ?_;rintro e kp ⟨rfl,kd⟩;go_wp2_with fail
      go_ret;exact ⟨Z,cr.trans ((l0 pa kd).mono cr.size)⟩
     | true =>
      go_enter func56,ntmps56;go_wp2_with fail
      rw [nz.out];refine kZ.mono ?_;rintro e cl ⟨rfl,bo⟩;have bL:=cell_later bo bL;have c1:=cell_later bo c1;have c2:=cell_later bo c2;have c3:=cell_later bo c3;have c4:=cell_later bo c4;have c5:=cell_later bo c5;have c':=cell_later bo c';have dT:=cell_later bo dT;have dS:=cell_later bo dS;go_wp2_with fail
      refine (AE.out _ bo).mono ?_;rintro e w3 ⟨rfl,dj⟩;have oj:=l0 bo dj;have bL:=cell_later dj bL;have c1:=cell_later dj c1;have c2:=cell_later dj c2;have c3:=cell_later dj c3;have c4:=cell_later dj c4;have c5:=cell_later dj c5;have c':=cell_later dj c';have dT:=cell_later dj dT;have dS:=cell_later dj dS;go_wp2_with fail
      refine (CR.out _ oj).mono ?_;rintro e qq ⟨rfl,de⟩;have pa:=l0 oj de;have bL:=cell_later de bL;have c1:=cell_later de c1;have c2:=cell_later de c2;have c3:=cell_later de c3;have c4:=cell_later de c4;have c5:=cell_later de c5;have c':=cell_later de c';have dT:=cell_later de dT;have dS:=cell_later de dS;go_wp2_with fail
      refine (wO.out _ pa).mono ?_;rintro e kp ⟨rfl,kd⟩;go_wp2_with fail
      go_ret;exact ⟨Z,cr.trans ((l0 pa kd).mono cr.size)⟩
 ·rw [ae.V5 se];have hd:(W.field.bh == 0)=false:=by simpa using se
  have DD:(W.field.bh != 0)=true:=by simpa using se
  clear se q9 KW nR;generalize W.field.bh=k at *
  go_enter func56,ntmps56;go_wp2_with fail
  rw [nz.out];refine hf.mono ?_;rintro e cl ⟨rfl,bo⟩;go_wp2_with fail
  go_ret;exact ⟨Z,cr.trans (bo.mono cr.size)⟩
end
section
open Go.RowKit
theorem afE:(prog.info? 4).map (λ i=>(i.zero,i.size,i.bytes))=some (some (.bool false),1,1):=by kernel_rfl
def JK (f:aC) (x y:aW):Bool:=if (x.owner == y.owner || decide (Em x.kind<aT x.spot y.spot))=true then false else HQ f x.spot y.spot
def cZ (l:List aW):List (Int×Int):=(List.range l.length).map λ i=>((l.getD i default).id,(i:Int))
theorem aoh {l:List aW} {k:Nat} (h:k<l.length):cZ (l.take (k+1))=cZ (l.take k)++ [((l.getD k default).id,(k:Int))]:=by
 have aU:(l.take (k+1)).length=k+1:=by rw [List.length_take];omega
 have bc:(l.take k).length=k:=by rw [List.length_take];omega
 unfold cZ;rw [aU,bc,List.range_succ,List.map_append];congr 1
 ·refine List.map_congr_left λ i ao=> ?_;have ao:=List.mem_range.1 ao;simp only [List.getD_eq_getElem?_getD,List.getElem?_take];rw [if_pos (by omega),if_pos ao]
 ·simp only [List.map_cons,List.map_nil,List.getD_eq_getElem?_getD,List.getElem?_take];rw [if_pos (by omega)]
theorem ZF {l:List aW} {p:Int×Int} (h:p∈cZ l):∃ i,i<l.length∧p=((l.getD i default).id,(i:Int)):=by
 obtain ⟨i,ao,rfl⟩:=List.mem_map.1 h;exact ⟨i,List.mem_range.1 ao,Z⟩
theorem ald {l:List (Int×Int)} {k v:Int} (h:cq l k=some v):(k,v)∈l:=by
 unfold cq at h;cases hf:l.find? (λ p=>p.1 == k) with
 | none=>rw [hf] at h;exact nomatch h
 | some p =>
  rw [hf] at h;injection h with h
  have γ:=List.mem_of_find?_eq_some hf;have aa:=List.find?_some hf;have au:p.1=k:=by simpa using aa
  rw [← au,← h];exact γ
theorem ale {l:List (Int×Int)} {k:Int} (h:∀ p∈l,p.1≠k):cq l k=none:=by
 unfold cq;rw [List.find?_eq_none.2 λ p hp=>by simpa using h p hp];rfl
theorem abS {W:ae} {x v:Int} (h:cq (cZ W.ag) x=some v):∃ i,i<W.ag.length∧v=(i:Int)∧(W.ag.getD i default).id=x:=by
 obtain ⟨i,ao,he⟩:=ZF (ald h);injection he with γ aa
 exact ⟨i,ao,aa,γ.symm⟩
theorem arl {W:ae} (bq:Good W) (x:Int) (h:(cq (cZ W.ag) x).isSome=true):((cq (cZ W.ag) x).getD 0).toNat<W.ag.length∧0≤(cq (cZ W.ag) x).getD 0:=by
 cases aO:cq (cZ W.ag) x with
 | none=>rw [aO] at h;exact nomatch h
 | some v =>
  obtain ⟨i,ao,hv,_⟩:=abS aO;show v.toNat<_∧0≤v;omega
theorem aro (W:ae) (x:Int):0≤(cq (cZ W.ag) x).getD 0:=by
 cases aO:cq (cZ W.ag) x with
 | none=>exact Int.le_refl _
 | some v=>obtain ⟨i,ao,hv,_⟩:=abS aO;show 0≤v;omega
theorem Good.aoi {W:ae} (bq:Good W) {i j:Nat} (ke:i<j) (ay:j<W.ag.length):(W.ag.getD i default).id<(W.ag.getD j default).id:=by
 induction j with
 | zero=>omega
 | succ j bk =>
  obtain ⟨t,aA⟩:=gg ay;have γ:=(bq.ids (j+1) t aA).1;have aa:W.ik (j+1)=(W.ag.getD j default).id:=by
   unfold ae.ik;simp
  have aU:W.ag.getD (j+1) default=t:=by rw [List.getD_eq_getElem?_getD,aA];rfl
  rw [aU];rcases Nat.lt_succ_iff_lt_or_eq.1 ke with h | rfl
  ·have:=bk h (by omega);omega
  ·omega
theorem arn {W:ae} (bq:Good W) {k:Nat} (av:k<W.ag.length):cq (cZ (W.ag.take k)) (W.ag.getD k default).id=none:=by
 refine ale λ p hp=> ?_;obtain ⟨i,ao,rfl⟩:=ZF hp;rw [List.length_take] at ao;have γ:=bq.aoi (i:=i) (j:=k) (by omega) av;have aa:(W.ag.take k).getD i default=W.ag.getD i default:=by
  simp only [List.getD_eq_getElem?_getD,List.getElem?_take];rw [if_pos (by omega)]
 show ((W.ag.take k).getD i default).id≠_;rw [aa];omega
theorem Good.aqj {W:ae} (bq:Good W) (i:Nat): -1000≤(W.ag.getD i default).spot.x∧(W.ag.getD i default).spot.x≤1000∧ -1000≤(W.ag.getD i default).spot.y∧(W.ag.getD i default).spot.y≤1000:=by
 rw [List.getD_eq_getElem?_getD];cases aA:W.ag[i]? with
 | none=>exact ⟨by decide,by decide,by decide,by decide⟩
 | some t =>
  obtain ⟨i1,i2,i3,i4,i5,i6⟩:=aC.idx bq.field (aC.iD (bq.ag i t aA).ground);obtain ⟨pL,Ah,EY,MH,_,_⟩:=aC.jg bq.field;show -1000≤t.spot.x∧t.spot.x≤1000∧ -1000≤t.spot.y∧t.spot.y≤1000;omega
def Jw (W:ae) (s:List Bool×List Int) (b:cR):Bool :=
 (((!(cq (cZ W.ag) b.aL).isSome || !(cq (cZ W.ag) b.dC).isSome) || s.1.getD ((cq (cZ W.ag) b.aL).getD 0).toNat false) || !JK W.field (W.ag.getD ((cq (cZ W.ag) b.aL).getD 0).toNat default) (W.ag.getD ((cq (cZ W.ag) b.dC).getD 0).toNat default))
def wV (W:ae) (s:List Bool×List Int) (b:cR):List Bool×List Int :=
 if Jw W s b=true then s
 else (s.1.set ((cq (cZ W.ag) b.aL).getD 0).toNat true,s.2.set ((cq (cZ W.ag) b.dC).getD 0).toNat (s.2.getD ((cq (cZ W.ag) b.dC).getD 0).toNat 0+q6 (W.ag.getD ((cq (cZ W.ag) b.aL).getD 0).toNat default).kind))
theorem VI {W:ae} {s:List Bool×List Int} {b:cR} (h:Jw W s b=false):wV W s b=(s.1.set ((cq (cZ W.ag) b.aL).getD 0).toNat true,s.2.set ((cq (cZ W.ag) b.dC).getD 0).toNat (s.2.getD ((cq (cZ W.ag) b.dC).getD 0).toNat 0+q6 (W.ag.getD ((cq (cZ W.ag) b.aL).getD 0).toNat default).kind)):=by
 unfold wV;rw [h];rfl
theorem VG {W:ae} {s:List Bool×List Int} {b:cR} (h:Jw W s b=true):wV W s b=s:=by unfold wV;rw [h];rfl
def jb (W:ae) (l:List cR):List Bool×List Int:=l.foldl (wV W) (List.replicate W.ag.length false,List.replicate W.ag.length 0)
theorem agW (W:ae) (l:List cR) (b:cR):jb W (l++ [b])=wV W (jb W l) b:=by unfold jb;rw [List.foldl_append];rfl
theorem VJ (W:ae) {l:List cR} {k:Nat} (h:k<l.length):jb W (l.take (k+1))=wV W (jb W (l.take k)) (l.getD k default):=by
 rw [List.take_succ_eq_append_getElem h,agW,List.getD_eq_getElem?_getD,List.getElem?_eq_getElem h];rfl
theorem Yr (k:Int):0≤q6 k∧q6 k≤4:=by unfold q6;split<;>(try split)<;>omega
def E_ (n m:Nat) (s:List Bool×List Int):Prop:=s.1.length=n∧s.2.length=n∧∀ j,0≤s.2.getD j 0∧s.2.getD j 0≤4 * m
theorem agT (W:ae) {n m:Nat} {s:List Bool×List Int} (b:cR) (h:E_ n m s):E_ n (m+1) (wV W s b):=by
 obtain ⟨γ,aa,au⟩:=h;cases Φ:Jw W s b with
 | true=>rw [VG Φ];exact ⟨γ,aa,λ j=>by have:=au j;omega⟩
 | false =>
  rw [VI Φ];refine ⟨by rw [List.length_set];exact γ,by rw [List.length_set];exact aa,λ j=> ?_⟩;have ay:=au j;have hx:=Yr (W.ag.getD ((cq (cZ W.ag) b.aL).getD 0).toNat default).kind;have hm:=au ((cq (cZ W.ag) b.dC).getD 0).toNat;show 0≤(s.2.set _ _).getD j 0∧(s.2.set _ _).getD j 0≤_;generalize ((cq (cZ W.ag) b.dC).getD 0).toNat=i at *
  generalize q6 _=q at *
  rw [List.getD_eq_getElem?_getD] at ay;rw [List.getD_eq_getElem?_getD,List.getElem?_set];split
  ·split
   ·rw [Option.getD_some];omega
   ·rw [Option.getD_none];omega
  ·omega
theorem VF (W:ae) {n:Nat}:∀ (l:List cR) {m:Nat} {s:List Bool×List Int},E_ n m s→E_ n (m+l.length) (l.foldl (wV W) s)
 | [],m,s,h=>h
 | b::l,m,s,h=>by
  have:=VF W l (agT W b h);rw [Nat.add_assoc,Nat.add_comm 1] at this;exact this
theorem N2 (W:ae) (l:List cR):(jb W l).1.length=W.ag.length∧(jb W l).2.length=W.ag.length∧∀ j,0≤(jb W l).2.getD j 0∧(jb W l).2.getD j 0≤4 * l.length:=by
 have aE:E_ W.ag.length 0 (List.replicate W.ag.length false,List.replicate W.ag.length 0):=by
  refine ⟨List.length_replicate,List.length_replicate,λ j=> ?_⟩;have:(List.replicate W.ag.length (0:Int)).getD j 0=0:=by
   rw [List.getD_eq_getElem?_getD,List.getElem?_replicate];split<;>rfl
  show 0≤(List.replicate W.ag.length (0:Int)).getD j 0∧(List.replicate W.ag.length (0:Int)).getD j 0≤_;rw [this];decide
 obtain ⟨γ,aa,au⟩:=VF W l aE;refine ⟨γ,aa,λ j=> ?_⟩;have:=au j;rw [Nat.zero_add] at this;exact this
def kA (W:ae) (l:List cR):Int:=if W.bh≠0 then W.bh else if 200<l.length then 2 else 0
def eH (W:ae) (l:List cR):List Int:=if kA W l≠0 then [] else (jb W l).2
theorem VH {W:ae} {l:List cR} {w aM:World} {v:Int} (h:kA W l=v) (hv:v≠0) (x:Ext w aM):∃ A c,(Ending.returned (.tuple #[.slice none 0 0, .int .i64 v])= .returned (.tuple #[.slice A (eH W l).length c, .int .i64 (kA W l)]))∧bz.aF 3 8 aM w.heap.size (κ.af A) A c (eH W l)∧Ext w aM:=by
 have e:eH W l= []:=by unfold eH;rw [h,if_pos hv]
 rw [e,h];exact ⟨none,0,Z,κ.aF.nil _,x⟩
theorem agU {W:ae} {l:List cR} (h:W.bh=0) (aa:¬ (200:Int)<l.length):kA W l=0∧eH W l=(jb W l).2:=by
 have e:kA W l=0:=by unfold kA;rw [if_neg (by simpa using h),if_neg (by omega)]
 exact ⟨e,by unfold eH;rw [e];rfl⟩
theorem ahU (a:ae.b6) (W:ae) (x y:aW) (w:World) (bs:ae.Has w a W) (h: -1000≤x.spot.x∧x.spot.x≤1000∧ -1000≤x.spot.y∧x.spot.y≤1000) (aa: -1000≤y.spot.x∧y.spot.x≤1000∧ -1000≤y.spot.y∧y.spot.y≤1000):
  Calls prog 134 #[.agg ((ae.cells a W).toArray), .agg #[.int .i64 x.id, .int .i64 x.owner, .int .i64 x.kind, .int .i64 x.spot.x, .int .i64 x.spot.y, .int .i64 x.cG, .int .i64 x.load], .agg #[.int .i64 y.id, .int .i64 y.owner, .int .i64 y.kind, .int .i64 y.spot.x, .int .i64 y.spot.y, .int .i64 y.cG, .int .i64 y.load]] w (λ e w'=>e= .returned (.bool (JK W.field x y))∧Ext w w'):=by
 refine cv (n:=51) func134 Z Z Z ?_;refine aj<|cI Z Z Z Z λ dw bC bg eY ab=> ?_;have:=bg.size;have br:=τ (Ext.bM w) bg;have eZ:=ab.lt;refine cI Z Z Z Z λ eB c_ bj iF ai=> ?_;have:=bj.size;have bS:=τ br bj;have iJ:=ai.lt;refine cI Z Z Z Z λ iW hb b0 qa a7=> ?_;have:=b0.size;have dp:=τ bS b0;have pC:=a7.lt;refine va Z<|ah<|aj<|J (aw J6 Z)<| ?_;have ai:=ai.later b0;refine J (ak Z (ai.one aZ Z))<|ca OE Z Z ((QR (x.kind) _).mono ?_);rintro e oD ⟨rfl,dA⟩;refine ⟨_,Z, ?_⟩;have:=dA.size;have fG:=τ dp dA;refine vm Z<|J (ex Z Z)<|J (ex Z Z)<|al Z OG Z Z λ sD Jm jH ao4 qG=> ?_;have:=jH.size;have iM:=τ fG jH;have ar2:=qG.lt;refine st (new:= [.int .i64 (ae.iG x.kind), .int .i64 (Em x.kind), .int .i64 (q6 x.kind), .int .i64 (ae.jo x.kind)]) Z Z qG Z OH Z Z Z λ we BQ qG=> ?_;have:=BQ.size;have mB:=Ext.mod iM BQ (bR (by omega));have:=BQ.size;refine va Z<|ah<|aj<|J (aw q2 Z)<| ?_;have ai:=ai.later (τ dA jH);have ai:=ai.mod BQ (bb (by omega));refine J (ak Z (ai.par [.int .i64 x.spot.x, .int .i64 x.spot.y] bZ bE Z))<|J (aw q2 Z)<| ?_;have a7:=a7.later (τ dA jH);have a7:=a7.mod BQ (bb (by omega));refine J (ak Z (a7.par [.int .i64 y.spot.x, .int .i64 y.spot.y] bZ bE Z))<|ca Xm Z Z ((Vo x.spot y.spot _ (by omega) (by omega)).mono ?_);rintro e adN ⟨rfl,rF⟩;refine ⟨_,Z, ?_⟩;have:=rF.size;have Ct:=τ mB rF;refine vm Z<|J (ex Z Z)<|J (ex Z Z)<|J (ex Z Z)<|va Z<|va Z<|va Z<|ah<|aD<|aj<|J (aw A7 Z)<| ?_;have ai:=ai.later rF;refine J (ak Z (ai.one aZ Z))<|J (aw A7 Z)<| ?_;have a7:=a7.later rF;refine J (ak Z (a7.one aZ Z))<|J (beq Z Z)<|vm Z<|bB Z Z Z Z (λ hc=>aJ Z) Z<|bB Z Z Z Z (λ hc=>aw ajX Z) Z<| ?_;have qG:=qG.later rF;refine bB Z Z Z Z (λ hc=>ak (gt hc Z) (qG.one aZ Z)) Z<|bB Z Z Z Z (λ hc=>jC (gt hc Z) (gt hc Z)) Z<|J (gy Z Z Z Z)<|ah<| ?_;refine fk Z (λ Bd=> ?_) (λ Bd=> ?_)
 ·refine aj<|va Z<|ah<|rt<|cf<|bp (.tmp Z .nil)<| ?_;exact ⟨by unfold JK;rw [Bd];rfl,Ct⟩
 ·refine bx<|aj<|J (aw o5 Z)<| ?_;have ab:=ab.later (τ bj (τ b0 (τ dA jH)));have ab:=ab.mod BQ (bb (by omega));have ab:=ab.later rF;refine J (ak Z (ab.par [.int .i64 W.field.wide, .int .i64 W.field.high, .slice a.P W.field.aP.length a.p] kb kc Z))<|J (aw q2 Z)<|J (ak Z (ai.par [.int .i64 x.spot.x, .int .i64 x.spot.y] bZ bE Z))<|J (aw q2 Z)<|J (ak Z (a7.par [.int .i64 y.spot.x, .int .i64 y.spot.y] bZ bE Z))<|ca ajY Z Z ((asV W.field x.spot y.spot _ _ _ (bs.P.keep Ct)).mono ?_);rintro e adO ⟨rfl,aei⟩;refine ⟨_,Z, ?_⟩;have:=aei.size;have Is:=τ Ct aei;refine vm Z<|J (ex Z Z)<|J (ex Z Z)<|va Z<|va Z<|ah<|aj<|vm Z<|va Z<|ah<|rt<|bp (.tmp Z .nil)<| ?_;exact ⟨by unfold JK;rw [Bd];rfl,Is⟩
theorem agV (a:ae.b6) (W:ae) (l:List cR) (A:Option Addr) (c:Nat) (w:World) (bs:ae.Has w a W) (az:cR.rep.aH 16 w A c l):
  Calls prog 95 #[.agg ((ae.cells a W).toArray), .slice A l.length c] w (λ e w'=>∃ A c,e= .returned (.tuple #[.slice A (eH W l).length c, .int .i64 (kA W l)])∧bz.aF 3 8 w' w.heap.size (κ.af A) A c (eH W l)∧Ext w w'):=by
 refine cv (n:=120) func95 Z Z Z ?_;refine aj<|cI Z Z Z Z λ dw bC bg eY ab=> ?_;have:=bg.size;have br:=τ (Ext.bM w) bg;have eZ:=ab.lt;refine va Z<|va Z<|ah<|aD<|aj<|J (ak Z (ab.all dr b2))<|ca Df Z Z ((yF a W _ (bs.keep br)).mono ?_);rintro e eB ⟨rfl,dn⟩;refine ⟨_,Z, ?_⟩;have:=dn.size;have bS:=τ br dn;refine va Z<|ah<|aj<|vm Z<|J (bne Z Z)<|ah<| ?_;refine hg Z (λ jh=> ?_) (λ jh=> ?_)
 ·refine aj<|vm Z<|va Z<|va Z<|ah<|rt<|cf<|bp (.tmp Z (.tmp Z .nil))<| ?_;exact VH (by unfold kA;rw [if_pos jh]) jh bS
 ·have bq:=Good.zD jh;have Bz:=bq.eo;have Zk:=λ i=>bq.aqj i;have dJ:=λ x=>arl bq x;have cP:=λ x=>aro W x;have ot:=az.ez;refine bx<|aD<|aj<|vm Z<|J (cW underlying123 Z)<|J (jC Z Z)<|ah<| ?_;refine ef Z (λ kV=> ?_) (λ kV=> ?_)
  ·refine aj<|va Z<|va Z<|ah<|rt<|cf<|bp (.tmp Z (.tmp Z .nil))<| ?_;exact VH (by unfold kA;rw [if_neg (by simpa using jh),if_pos (by omega)]) (by decide) bS
  ·refine bx<|aj<|Rm Z λ Ca Ek n7 ao1 UE=> ?_;have:=n7.size;have pN:=τ bS n7;have arY:=UE.lt;refine va Z<|ah<|aD<|aj<|J (aw iB Z)<| ?_;have ab:=ab.later (τ dn n7);refine J (ak Z (ab.one jW Z))<|J (cW underlying26 Z)<|vm Z<|ah<|bP<| ?_;refine fe (λ ck ch aS=>∃ k:Nat,ch= [(1, .slice A l.length c),(2, .pointer (some ⟨bC,0,none⟩)),(4, .slice none 0 0),(5, .int .i64 0),(7, .map (some Ek)),(30, .slice a.T W.ag.length a.t),(31, .int .i64 (W.ag.length:Int)),(32, .int .i64 (k:Int))]∧ck=W.ag.length - k∧Ext w aS∧aK aS bC (ae.cells a W) 28 (0,0)∧nA aS Ek (cZ (W.ag.take k))∧(k≤W.ag.length)) _ _ ⟨0,Z,Z,pN,ab,UE,by omega⟩ (.cons Z (.cons Z (.cons Z (.cons Z (.cons Z (.cons Z (.cons Z (.cons (bX Z (by first | omega | rfl | (simp<;>omega))) .nil)))))))) ?_;rintro zt aw6 xU ⟨k,rfl,rfl,np,ab,gm,av⟩;have:=np.size;have arZ:=ab.lt;have aD9:=gm.lt;refine aj<|J (blt Z Z)<|ah<|aD<| ?_;refine ef Z (λ tL=> ?_) (λ tL=> ?_)
   ·refine bx<|aD<|bP<|aj<|vm Z<|J (bY k underlying26 h2 Z Z ((bs.T.keep np).bA (a8 k (by have dY:=cP (l.getD k default).aL;have eS:=cP (l.getD k default).dC;omega))) Z (by have dY:=cP (l.getD k default).aL;have eS:=cP (l.getD k default).dC;omega))<|J (ak Z (κ.aH.ic ih ((bs.T.keep np).cL (a8 k (by have dY:=cP (l.getD k default).aL;have eS:=cP (l.getD k default).dC;omega))) (dO (l:=W.ag) (u:=default) (by have dY:=cP (l.getD k default).aL;have eS:=cP (l.getD k default).dC;omega)) vu h2))<|al Z FX Z Z λ SE ax7 kH aBH IK=> ?_;have:=kH.size;have Aj:=τ np kH;have ar3:=IK.lt;refine va Z<|st (new:= [.int .i64 ((W.ag.getD k default).id), .int .i64 ((W.ag.getD k default).owner), .int .i64 ((W.ag.getD k default).kind), .int .i64 ((W.ag.getD k default).spot.x), .int .i64 ((W.ag.getD k default).spot.y), .int .i64 ((W.ag.getD k default).cG), .int .i64 ((W.ag.getD k default).load)]) Z Z IK Z h2 Z Z Z λ EE il IK=> ?_;have:=il.size;have qB:=Ext.mod Aj il (bR (by omega));have:=il.size;refine ah<|rg<|vm Z<|J (aw Dg Z)<|J (ak Z (IK.one aZ Z))<|vm Z<| ?_;have gm:=gm.later kH;have gm:=gm.mod il (bb (by omega));refine mu underlying167 underlying3 gm (arn bq (by omega)) Z Z Z λ EF mf gm=> ?_;have:=mf.size;have x6:=Ext.mod qB mf (bR (by omega));have:=mf.size;refine nl<|cg<|a6<|rg<|J (bad Z Z (bF (by have dY:=cP (l.getD k default).aL;have eS:=cP (l.getD k default).dC;omega)))<|vm Z<|nl<| ?_;have ab:=ab.later kH;have ab:=ab.mod il (bb (by omega));have ab:=ab.mod mf (bb (by omega));exact du _ _ ⟨k+1,Z,Z,x6,ab,(by rw [aoh (by omega)];exact gm),by omega⟩ (by omega) (.cons Z (.cons Z (.cons Z (.cons Z (.cons Z (.cons Z (.cons Z (.cons (bX Z (by first | omega | rfl | (simp<;>omega))) .nil))))))))
   ·refine dG<|dF<|eb<|dE<|a6<|aj<|J (aw iB Z)<|J (ak Z (ab.one jW Z))<|J (cW underlying26 Z)<|Q6 (R:=bz) (by_:=8) (B:=w.heap.size) (c:=W.ag.length) (zv:=(.int .i64 0)) (q:=0) κ.r5 underlying22 zi Z Z (λ j u h=>El j u h) (λ _=>⟨Z,bt.2 (by decide)⟩) Z Z Z (by omega) (by omega) (by omega) λ Mr yz fY aBQ qR=> ?_;have:=fY.size;have uS:=τ np fY;have Mi:=λ q I=>(qR.lt q I).2;have aa7:∀ q∈κ.af (some ⟨yz,0,none⟩),yz≤q:=λ q I=>Nat.le_of_eq (List.mem_singleton.1 I).symm;refine va Z<|ah<|aj<|J (aw iB Z)<| ?_;have ab:=ab.later fY;refine J (ak Z (ab.one jW Z))<|J (cW underlying26 Z)<|Q6 (R:=vS) (by_:=1) (B:=w.heap.size) (c:=W.ag.length) (zv:=(.bool false)) (q:=false) κ.r5 underlying58 afE Z Z (λ j u h=>acj j u h) (λ _=>⟨Z,trivial⟩) Z Z Z (by omega) (by omega) (by omega) λ EH th jI aa1 yp=> ?_;have:=jI.size;have nw:=τ uS jI;have aFl:=λ q I=>(yp.lt q I).2;have Q3:∀ q∈κ.af (some ⟨th,0,none⟩),th≤q:=λ q I=>Nat.le_of_eq (List.mem_singleton.1 I).symm;refine va Z<|ah<|aD<|aj<|vm Z<|J (cW underlying123 Z)<|vm Z<|ah<|bP<| ?_;have gm:=gm.later (τ fY jI);have qR:=qR.later jI;have ab:=ab.later jI;refine fe (λ ck ch aS=>∃ k:Nat,ch= [(2, .pointer (some ⟨bC,0,none⟩)),(4, .slice none 0 0),(5, .int .i64 0),(7, .map (some Ek)),(10, .slice (some ⟨yz,0,none⟩) W.ag.length W.ag.length),(11, .slice (some ⟨th,0,none⟩) W.ag.length W.ag.length),(50, .slice A l.length c),(51, .int .i64 (l.length:Int)),(52, .int .i64 (k:Int))]∧ck=l.length - k∧Ext w aS∧aK aS bC (ae.cells a W) 28 (0,0)∧nA aS Ek (cZ W.ag)∧bz.aF 3 8 aS w.heap.size (κ.af (some ⟨yz,0,none⟩)) (some ⟨yz,0,none⟩) W.ag.length ((jb W (l.take k)).2)∧vS.aF 4 1 aS w.heap.size (κ.af (some ⟨th,0,none⟩)) (some ⟨th,0,none⟩) W.ag.length ((jb W (l.take k)).1)∧(k≤l.length)∧(∀ q∈κ.af (some ⟨yz,0,none⟩),q=bC→False)∧(∀ q∈κ.af (some ⟨yz,0,none⟩),q=Ek→False)∧(∀ q∈κ.af (some ⟨th,0,none⟩),q=bC→False)∧(∀ q∈κ.af (some ⟨th,0,none⟩),q=Ek→False)∧(∀ q∈κ.af (some ⟨th,0,none⟩),q∈κ.af (some ⟨yz,0,none⟩)→False)) _ _ ⟨0,Z,Z,nw,ab,(by have e:k=W.ag.length:=(by omega);rw [e,List.take_length] at gm;exact gm),qR,yp,by omega,(λ q I Φ=>by (have:=aa7 q I;omega)),(λ q I Φ=>by (have:=aa7 q I;omega)),(λ q I Φ=>by (have:=Q3 q I;omega)),(λ q I Φ=>by (have:=Q3 q I;omega)),(λ q I Φ=>by (have:=Q3 q I;(have:=Mi q Φ;omega)))⟩ (.cons Z (.cons Z (.cons Z (.cons Z (.cons Z (.cons Z (.cons Z (.cons Z (.cons (bX Z (by first | omega | rfl | (simp<;>omega))) .nil))))))))) ?_;rintro Hy axm Ms ⟨k,rfl,rfl,rM,ab,gm,jA,nB,av,q0,l5,l6,yJ,wZ⟩;have:=rM.size;have aEq:=ab.lt;have RI:=gm.lt;have Sx:=λ q I=>(jA.lt q I).2;have sB:=λ q I=>(nB.lt q I).2;obtain ⟨cF,bo,dj⟩:=N2 W (l.take k);have de:(l.take k).length≤k:=List.length_take_le k l;refine aj<|J (blt Z Z)<|ah<|aD<| ?_;refine ef Z (λ al2=> ?_) (λ al2=> ?_)
    ·refine bx<|aD<|bP<|aj<|J (bY k underlying123 OI Z Z ((az.keep rM).bA (a8 k (by have dY:=cP (l.getD k default).aL;have eS:=cP (l.getD k default).dC;omega))) Z (by have dY:=cP (l.getD k default).aL;have eS:=cP (l.getD k default).dC;omega))<|J (ak Z (κ.aH.ic amj ((az.keep rM).cL (a8 k (by have dY:=cP (l.getD k default).aL;have eS:=cP (l.getD k default).dC;omega))) (dO (l:=l) (u:=default) (by have dY:=cP (l.getD k default).aL;have eS:=cP (l.getD k default).dC;omega)) ajZ OI))<|al Z aj0 Z Z λ sG aym qx aB2 E9=> ?_;have:=qx.size;have rO:=τ rM qx;have aEt:=E9.lt;refine st (new:= [.int .i64 ((l.getD k default).aL), .int .i64 ((l.getD k default).dC)]) Z Z E9 Z OI Z Z Z λ adX su E9=> ?_;have:=su.size;have uU:=Ext.mod rO su (bR (by omega));have:=su.size;refine ah<|aj<|vm Z<|J (aw aj1 Z)<|J (ak Z (E9.one aZ Z))<| ?_;have gm:=gm.later qx;have gm:=gm.mod su (bb (by omega));refine J (lk underlying167 underlying3 OJ gm Z Z)<|vm Z<|J (ex Z Z)<|J (ex Z Z)<|va Z<|va Z<|ah<|aj<|vm Z<|J (aw aj2 Z)<|J (ak Z (E9.one aZ Z))<|J (lk underlying167 underlying3 OJ gm Z Z)<|vm Z<|J (ex Z Z)<|J (ex Z Z)<|va Z<|va Z<|ah<|aD<|aD<| ?_;refine rd [(10,0),(13,0),(15,0),(18,0),(20,0),(23,0),(24,0)] [0,1,2,3,4,5,6,7,8,9,10,11,12,13,14,15,16,17,18,19,20,21,22,23,24,25,26] (by kernel_rfl) (by kernel_rfl) ?_;refine aq Z (λ _=>aJ Z)<|aq Z (λ _=>eo Z)<|aq Z (λ _=>aJ Z)<|aQ Z Z Z Z Z Z (λ hc _=>aJ Z) Z<|aQ Z Z Z Z Z Z (λ hc _=>eo (gt hc Z)) Z<|aq Z (λ _=>gy Z Z Z Z)<|aq Z (λ _=>aJ Z)<|aQ Z Z Z Z Z Z (λ hc _=>aJ Z) Z<|aQ Z Z Z Z Z Z (λ hc _=>aJ Z) Z<| ?_;have nB:=nB.later qx;have nB:=nB.mod su (cj sB (by omega));refine aQ Z Z Z Z Z Z (λ hc _=>bY (((cq (cZ W.ag) ((l.getD k default).aL)).getD 0).toNat) underlying58 OK (gt hc Z) (gt hc Z) (nB.has.bA (a8 (((cq (cZ W.ag) ((l.getD k default).aL)).getD 0).toNat) (by (try rw [cF]);simp only [cB] at hc;first | exact (dJ _ hc.1).1 | exact (dJ _ hc.2).1 | exact (dJ _ hc.1.1).1 | exact (dJ _ hc.1.2).1))) (by (try simp only [cB] at hc);have dY:=cP (l.getD k default).aL;have eS:=cP (l.getD k default).dC;omega) (by (try rw [cF]);simp only [cB] at hc;first | exact (dJ _ hc.1).1 | exact (dJ _ hc.2).1 | exact (dJ _ hc.1.1).1 | exact (dJ _ hc.1.2).1)) Z<|cc Z Z Z Z Z Z (λ hc _ x=>ak (gt hc Z) (κ.aH.e9 YA ((nB.later x).has.cL (a8 (((cq (cZ W.ag) ((l.getD k default).aL)).getD 0).toNat) (by (try rw [cF]);simp only [cB] at hc;first | exact (dJ _ hc.1).1 | exact (dJ _ hc.2).1 | exact (dJ _ hc.1.1).1 | exact (dJ _ hc.1.2).1))) (dO (l:=(jb W (l.take k)).1) (u:=false) (by (try rw [cF]);simp only [cB] at hc;first | exact (dJ _ hc.1).1 | exact (dJ _ hc.2).1 | exact (dJ _ hc.1.1).1 | exact (dJ _ hc.1.2).1)) Z aj3)) Z<|aq Z (λ _=>gy Z Z Z Z)<|aq Z (λ _=>aJ Z)<| ?_;have ab:=ab.later qx;have ab:=ab.mod su (bb (by omega));refine cc Z Z Z Z Z Z (λ hc _ x=>ak Z ((ab.later x).all dr b2)) Z<|aQ Z Z Z Z Z Z (λ hc _=>aw iB Z) Z<|cc Z Z Z Z Z Z (λ hc _ x=>ak (gt hc Z) ((ab.later x).one jW Z)) Z<|aQ Z Z Z Z Z Z (λ hc _=>aJ Z) Z<|aQ Z Z Z Z Z Z (λ hc _=>bY (((cq (cZ W.ag) ((l.getD k default).aL)).getD 0).toNat) underlying26 h2 (gt hc Z) (gt hc Z) ((bs.T.keep uU).bA (a8 (((cq (cZ W.ag) ((l.getD k default).aL)).getD 0).toNat) (by (try rw [(rfl:W.ag.length=W.ag.length)]);simp only [cB] at hc;first | exact (dJ _ hc.1).1 | exact (dJ _ hc.2).1 | exact (dJ _ hc.1.1).1 | exact (dJ _ hc.1.2).1))) (by (try simp only [cB] at hc);have dY:=cP (l.getD k default).aL;have eS:=cP (l.getD k default).dC;omega) (by (try rw [(rfl:W.ag.length=W.ag.length)]);simp only [cB] at hc;first | exact (dJ _ hc.1).1 | exact (dJ _ hc.2).1 | exact (dJ _ hc.1.1).1 | exact (dJ _ hc.1.2).1)) Z<|cc Z Z Z Z Z Z (λ hc _ x=>ak (gt hc Z) (κ.aH.ic ih ((bs.T.keep (τ uU x)).cL (a8 (((cq (cZ W.ag) ((l.getD k default).aL)).getD 0).toNat) (by (try rw [(rfl:W.ag.length=W.ag.length)]);simp only [cB] at hc;first | exact (dJ _ hc.1).1 | exact (dJ _ hc.2).1 | exact (dJ _ hc.1.1).1 | exact (dJ _ hc.1.2).1))) (dO (l:=W.ag) (u:=default) (by (try rw [(rfl:W.ag.length=W.ag.length)]);simp only [cB] at hc;first | exact (dJ _ hc.1).1 | exact (dJ _ hc.2).1 | exact (dJ _ hc.1.1).1 | exact (dJ _ hc.1.2).1)) vu h2)) Z<|aQ Z Z Z Z Z Z (λ hc _=>aw iB Z) Z<|cc Z Z Z Z Z Z (λ hc _ x=>ak (gt hc Z) ((ab.later x).one jW Z)) Z<|aQ Z Z Z Z Z Z (λ hc _=>aJ Z) Z<|aQ Z Z Z Z Z Z (λ hc _=>bY (((cq (cZ W.ag) ((l.getD k default).dC)).getD 0).toNat) underlying26 h2 (gt hc Z) (gt hc Z) ((bs.T.keep uU).bA (a8 (((cq (cZ W.ag) ((l.getD k default).dC)).getD 0).toNat) (by (try rw [(rfl:W.ag.length=W.ag.length)]);simp only [cB] at hc;first | exact (dJ _ hc.1).1 | exact (dJ _ hc.2).1 | exact (dJ _ hc.1.1).1 | exact (dJ _ hc.1.2).1))) (by (try simp only [cB] at hc);have dY:=cP (l.getD k default).aL;have eS:=cP (l.getD k default).dC;omega) (by (try rw [(rfl:W.ag.length=W.ag.length)]);simp only [cB] at hc;first | exact (dJ _ hc.1).1 | exact (dJ _ hc.2).1 | exact (dJ _ hc.1.1).1 | exact (dJ _ hc.1.2).1)) Z<|cc Z Z Z Z Z Z (λ hc _ x=>ak (gt hc Z) (κ.aH.ic ih ((bs.T.keep (τ uU x)).cL (a8 (((cq (cZ W.ag) ((l.getD k default).dC)).getD 0).toNat) (by (try rw [(rfl:W.ag.length=W.ag.length)]);simp only [cB] at hc;first | exact (dJ _ hc.1).1 | exact (dJ _ hc.2).1 | exact (dJ _ hc.1.1).1 | exact (dJ _ hc.1.2).1))) (dO (l:=W.ag) (u:=default) (by (try rw [(rfl:W.ag.length=W.ag.length)]);simp only [cB] at hc;first | exact (dJ _ hc.1).1 | exact (dJ _ hc.2).1 | exact (dJ _ hc.1.1).1 | exact (dJ _ hc.1.2).1)) vu h2)) Z<|h3 Z Z Z Z Z Z aj4 (λ hc=>fB (gt hc Z) (fB (gt hc Z) (fB (gt hc Z) Z))) (λ hc _ x=>ahU a W ((W.ag.getD (((cq (cZ W.ag) ((l.getD k default).aL)).getD 0).toNat) default)) ((W.ag.getD (((cq (cZ W.ag) ((l.getD k default).dC)).getD 0).toNat) default)) _ (bs.keep (τ uU x)) (Zk _) (Zk _)) Z<|aQ Z Z Z Z Z Z (λ hc _=>eo (gt hc Z)) Z<|aq Z (λ _=>gy Z Z Z Z)<|fn λ Cd nn=> ?_;have:=nn.size;have lR:=τ uU nn;refine a6<| ?_;refine fk Z (λ sa=> ?_) (λ sa=> ?_)
     ·refine dG<|dF<|dE<|a6<|rg<|J (bad Z Z (bF (by have dY:=cP (l.getD k default).aL;have eS:=cP (l.getD k default).dC;omega)))<|vm Z<|nl<| ?_;have aU:jb W (l.take (k+1))=((jb W (l.take k)).1,(jb W (l.take k)).2):=by rw [VJ W (by omega),VG sa]
      have ab:=ab.later nn;have gm:=gm.later nn;have jA:=jA.later qx;have jA:=jA.mod su (cj Sx (by omega));have jA:=jA.later nn;have nB:=nB.later nn;exact du _ _ ⟨k+1,Z,Z,lR,ab,gm,(by rw [aU];exact jA),(by rw [aU];exact nB),by omega,(λ q I Φ=>by (exact q0 q I Φ)),(λ q I Φ=>by (exact l5 q I Φ)),(λ q I Φ=>by (exact l6 q I Φ)),(λ q I Φ=>by (exact yJ q I Φ)),(λ q I Φ=>by (exact wZ q I Φ))⟩ (by omega) (.cons Z (.cons Z (.cons Z (.cons Z (.cons Z (.cons Z (.cons Z (.cons Z (.cons (bX Z (by first | omega | rfl | (simp<;>omega))) .nil)))))))))
     ·have ey:=sa;simp only [cB] at ey;have i1:=(dJ _ ey.1.1.1).1;have i2:=(dJ _ ey.1.1.2).1;have aM:=dj (((cq (cZ W.ag) ((l.getD k default).dC)).getD 0).toNat);have cl:=Yr (W.ag.getD (((cq (cZ W.ag) ((l.getD k default).aL)).getD 0).toNat) default).kind;refine bx<|aj<|J (aw iB Z)<| ?_;have ab:=ab.later nn;refine J (ak Z (ab.one jW Z))<|vm Z<|J (bY (((cq (cZ W.ag) ((l.getD k default).aL)).getD 0).toNat) underlying26 h2 Z Z ((bs.T.keep lR).bA (a8 (((cq (cZ W.ag) ((l.getD k default).aL)).getD 0).toNat) (by have dY:=cP (l.getD k default).aL;have eS:=cP (l.getD k default).dC;omega))) (by have dY:=cP (l.getD k default).aL;have eS:=cP (l.getD k default).dC;omega) (by have dY:=cP (l.getD k default).aL;have eS:=cP (l.getD k default).dC;omega))<|J (aw J6 Z)<|J (ak Z (κ.aH.nH ih ((bs.T.keep lR).cL (a8 (((cq (cZ W.ag) ((l.getD k default).aL)).getD 0).toNat) (by have dY:=cP (l.getD k default).aL;have eS:=cP (l.getD k default).dC;omega))) 2 (dO (l:=W.ag) (u:=default) (by have dY:=cP (l.getD k default).aL;have eS:=cP (l.getD k default).dC;omega)) Z aZ))<|ca OE Z Z ((QR ((W.ag.getD (((cq (cZ W.ag) ((l.getD k default).aL)).getD 0).toNat) default).kind) _).mono ?_);rintro e H_ ⟨rfl,ec⟩;refine ⟨_,Z, ?_⟩;have:=ec.size;have kt:=τ lR ec;refine vm Z<|J (ex Z Z)<|J (ex Z Z)<|al Z OG Z Z λ H' agK EX aCb CJ=> ?_;have:=EX.size;have qE:=τ kt EX;have aEA:=CJ.lt;refine st (new:= [.int .i64 (ae.iG ((W.ag.getD (((cq (cZ W.ag) ((l.getD k default).aL)).getD 0).toNat) default).kind)), .int .i64 (Em ((W.ag.getD (((cq (cZ W.ag) ((l.getD k default).aL)).getD 0).toNat) default).kind)), .int .i64 (q6 ((W.ag.getD (((cq (cZ W.ag) ((l.getD k default).aL)).getD 0).toNat) default).kind)), .int .i64 (ae.jo ((W.ag.getD (((cq (cZ W.ag) ((l.getD k default).aL)).getD 0).toNat) default).kind))]) Z Z CJ Z OH Z Z Z λ SS BS CJ=> ?_;have:=BS.size;have CB:=Ext.mod qE BS (bR (by omega));have:=BS.size;refine va Z<|ah<|aj<|vm Z<|vm Z<| ?_;have nB:=nB.later (τ nn (τ ec EX));have nB:=nB.mod BS (cj sB (by omega));refine J (bY (((cq (cZ W.ag) ((l.getD k default).aL)).getD 0).toNat) underlying58 OK Z Z (nB.has.bA (a8 (((cq (cZ W.ag) ((l.getD k default).aL)).getD 0).toNat) (by have dY:=cP (l.getD k default).aL;have eS:=cP (l.getD k default).dC;omega))) (by have dY:=cP (l.getD k default).aL;have eS:=cP (l.getD k default).dC;omega) (by have dY:=cP (l.getD k default).aL;have eS:=cP (l.getD k default).dC;omega))<|so (q':=true) (j:=0) (i:=(((cq (cZ W.ag) ((l.getD k default).aL)).getD 0).toNat)) nB κ.dV (dO (l:=(jb W (l.take k)).1) (u:=false) (by have dY:=cP (l.getD k default).aL;have eS:=cP (l.getD k default).dC;omega)) Z Z Z Z (λ _ cs h=>by have zE:=(show _∧_ from h).2;obtain rfl:=YA h;exact ⟨rfl,trivial⟩) Z Z OK λ auS jE AO=> ?_;have:=jE.size;have S4:=Ext.mod CB jE (λ q I=>(nB.lt q I).1);have:=jE.size;refine ah<| ?_;refine rd [(3,0),(5,0),(8,3)] [0,1,2,3,4,5,6,7,8] (by kernel_rfl) (by kernel_rfl) ?_;refine aq Z (λ _=>aJ Z)<|aq Z (λ _=>aJ Z)<| ?_;have jA:=jA.later qx;have jA:=jA.mod su (cj Sx (by omega));have jA:=jA.later (τ nn (τ ec EX));have jA:=jA.mod BS (cj Sx (by omega));have jA:=jA.mod jE (λ q I h=>by exfalso;(exact wZ q h I));refine aq Z (λ _=>bY (((cq (cZ W.ag) ((l.getD k default).dC)).getD 0).toNat) underlying22 cz Z Z (jA.has.bA (a8 (((cq (cZ W.ag) ((l.getD k default).dC)).getD 0).toNat) (by have dY:=cP (l.getD k default).aL;have eS:=cP (l.getD k default).dC;omega))) (by have dY:=cP (l.getD k default).aL;have eS:=cP (l.getD k default).dC;omega) (by have dY:=cP (l.getD k default).aL;have eS:=cP (l.getD k default).dC;omega))<|bD Z (λ _ x=>ak Z (κ.aH.e9 fo ((jA.later x).has.cL (a8 (((cq (cZ W.ag) ((l.getD k default).dC)).getD 0).toNat) (by have dY:=cP (l.getD k default).aL;have eS:=cP (l.getD k default).dC;omega))) (dO (l:=(jb W (l.take k)).2) (u:=0) (by have dY:=cP (l.getD k default).aL;have eS:=cP (l.getD k default).dC;omega)) Z aZ))<|aq Z (λ _=>aw aj5 Z)<| ?_;have ahY:∀ q∈κ.af (some ⟨th,0,none⟩),q=agK→False:=λ q I Φ=>by (have:=sB q I;omega)
      have CJ:=CJ.mod jE (λ I=>ahY _ I rfl);refine bD Z (λ _ x=>ak Z ((CJ.later x).one aZ Z))<|aq Z (λ _=>bad Z Z (bF (by have dY:=cP (l.getD k default).aL;have eS:=cP (l.getD k default).dC;omega)))<|aq Z (λ _=>bY (((cq (cZ W.ag) ((l.getD k default).dC)).getD 0).toNat) underlying22 cz Z Z (jA.has.bA (a8 (((cq (cZ W.ag) ((l.getD k default).dC)).getD 0).toNat) (by have dY:=cP (l.getD k default).aL;have eS:=cP (l.getD k default).dC;omega))) (by have dY:=cP (l.getD k default).aL;have eS:=cP (l.getD k default).dC;omega) (by have dY:=cP (l.getD k default).aL;have eS:=cP (l.getD k default).dC;omega))<|fc Z Z Z λ Mp oF Q hK=>so (q':=(((jb W (l.take k)).2).getD (((cq (cZ W.ag) ((l.getD k default).dC)).getD 0).toNat) 0)+(q6 ((W.ag.getD (((cq (cZ W.ag) ((l.getD k default).aL)).getD 0).toNat) default).kind))) (j:=0) (i:=(((cq (cZ W.ag) ((l.getD k default).dC)).getD 0).toNat)) (jA.later oF) κ.dV (dO (l:=(jb W (l.take k)).2) (u:=0) (by have dY:=cP (l.getD k default).aL;have eS:=cP (l.getD k default).dC;omega)) Z Z Z Z (λ _ cs h=>by have zE:=(show _∧_ from h).2;obtain rfl:=fo h;exact ⟨rfl,bt.2 (by omega)⟩) Z Z cz λ B9 kg wR=>hK _ _ ?_;have:=oF.size;have wj:=τ S4 oF;have:=kg.size;have Ij:=Ext.mod wj kg (λ q I=>((jA.later oF).lt q I).1);have:=kg.size;refine fn λ adG rD=> ?_;have:=rD.size;have Ik:=τ Ij rD;refine cg<|a6<|rg<|J (bad Z Z (bF (by have dY:=cP (l.getD k default).aL;have eS:=cP (l.getD k default).dC;omega)))<|vm Z<|nl<| ?_;have aU:jb W (l.take (k+1))=(((jb W (l.take k)).1).set (((cq (cZ W.ag) ((l.getD k default).aL)).getD 0).toNat) true,((jb W (l.take k)).2).set (((cq (cZ W.ag) ((l.getD k default).dC)).getD 0).toNat) ((((jb W (l.take k)).2).getD (((cq (cZ W.ag) ((l.getD k default).dC)).getD 0).toNat) 0)+(q6 ((W.ag.getD (((cq (cZ W.ag) ((l.getD k default).aL)).getD 0).toNat) default).kind)))):=by rw [VJ W (by omega),VI sa]
      have ab:=ab.later (τ ec EX);have ab:=ab.mod BS (bb (by omega));have ab:=ab.mod jE (λ I=>l6 _ I rfl);have ab:=ab.later oF;have ab:=ab.mod kg (λ I=>q0 _ I rfl);have ab:=ab.later rD;have gm:=gm.later (τ nn (τ ec EX));have gm:=gm.mod BS (bb (by omega));have gm:=gm.mod jE (λ I=>yJ _ I rfl);have gm:=gm.later oF;have gm:=gm.mod kg (λ I=>l5 _ I rfl);have gm:=gm.later rD;have wR:=wR.later rD;have AO:=AO.later oF;have AO:=AO.mod kg (λ q I h=>by exfalso;(exact wZ q I h));have AO:=AO.later rD;exact du _ _ ⟨k+1,Z,Z,Ik,ab,gm,(by rw [aU];exact wR),(by rw [aU];exact AO),by omega,(λ q I Φ=>by (exact q0 q I Φ)),(λ q I Φ=>by (exact l5 q I Φ)),(λ q I Φ=>by (exact l6 q I Φ)),(λ q I Φ=>by (exact yJ q I Φ)),(λ q I Φ=>by (exact wZ q I Φ))⟩ (by omega) (.cons Z (.cons Z (.cons Z (.cons Z (.cons Z (.cons Z (.cons Z (.cons Z (.cons (bX Z (by first | omega | rfl | (simp<;>omega))) .nil)))))))))
    ·refine dG<|dF<|eb<|dE<|a6<|aj<|vm Z<|va Z<|va Z<|ah<|rt<|bp (.tmp Z (.tmp Z .nil))<| ?_;obtain ⟨r1,r2⟩:=agU jh kV;have e:k=l.length:=by omega
     rw [e,List.take_length] at jA;rw [r1,r2];exact ⟨_,_,by rw [(N2 W l).2.1];rfl,jA,rM⟩
end
end Go.Proofs.YtlikikpgmmkjbaaGreat
