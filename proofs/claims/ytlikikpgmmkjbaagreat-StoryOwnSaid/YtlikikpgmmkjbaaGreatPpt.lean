import Derived.Test.YtlikikpgmmkjbaaGreatGooO
set_option linter.unusedVariables false
set_option linter.unusedSimpArgs false
set_option maxRecDepth 100000
set_option maxHeartbeats 4000000
namespace Go.Proofs.YtlikikpgmmkjbaaGreat
open Tryz
section
open Go.RowKit
theorem afg:ff prog vS 58 4 1:=ff.lB (z:= .bool false) (k:=1) underlying58 (by kernel_rfl) rfl rfl (by decide) (λ j u h=>acj j u h)
theorem ae.WT {W:ae} {d:b1} (h:d.kind=1):W.jV d=W.lA d:=by unfold ae.jV;rw [if_pos h]
theorem ae.WR {W:ae} {d:b1} (h:d.kind=2):W.jV d=W.drop d:=by unfold ae.jV;rw [if_neg (by omega),if_pos h]
theorem ae.WS {W:ae} {d:b1} (h:d.kind=3):W.jV d=W.pd d:=by unfold ae.jV;rw [if_neg (by omega),if_neg (by omega),if_pos h]
theorem ae.WU {W:ae} {d:b1} (γ:¬ d.kind=1) (aa:¬ d.kind=2) (au:¬ d.kind=3):W.jV d=none:=by unfold ae.jV;rw [if_neg γ,if_neg aa,if_neg au]
theorem Oj {W:ae} {V:Option ae} {w aM:World} {aB S:Nat} {a:ae.b6} {f:FuncId} {args:Array Value} (h:Calls prog f args aM (s_ W V aM aB S a)) (x:Ext w aM):Calls prog f args aM (s_ W V w aB S a):=
 h.mono λ e cl ⟨a2,γ,aa,au,a1⟩=>⟨a2,γ,aa,λ q I=>(au q I).imp id λ h=>Nat.le_trans x.size h,(Mod.bG x).trans a1⟩
theorem ap2 (d:b1) (w:World) (aB S:Nat) (a:ae.b6) (W:ae) (h:j' w aB S a W) (bq:Good W):Calls prog 138 #[.pointer (some ⟨S,0,none⟩), .agg #[.int .i64 d.kind, .int .i64 d.aL, .int .i64 d.spot.x, .int .i64 d.spot.y, .int .i64 d.what]] w (s_ W (W.lA d) w aB S a):=by
 cases hf:W.ag.findIdx? (fV d.aL) with
 | none=>exact ap1 d w aB S a W h bq hf
 | some k=>obtain ⟨t,aA,_⟩:=Dl hf;exact ap0 d w aB S a W h bq k t hf aA
theorem aiI (d:b1) (w:World) (aB S:Nat) (a:ae.b6) (W:ae) (h:j' w aB S a W) (bq:Good W):Calls prog 139 #[.pointer (some ⟨S,0,none⟩), .agg #[.int .i64 d.kind, .int .i64 d.aL, .int .i64 d.spot.x, .int .i64 d.spot.y, .int .i64 d.what]] w (s_ W (W.drop d) w aB S a):=by
 cases hf:W.ag.findIdx? (fV d.aL) with
 | none=>exact aiH d w aB S a W h bq hf
 | some k=>obtain ⟨t,aA,_⟩:=Dl hf;exact drop2 d w aB S a W h bq k t hf aA
theorem amJ (d:b1) (w:World) (aB S:Nat) (a:ae.b6) (W:ae) (h:j' w aB S a W) (bq:Good W):Calls prog 140 #[.pointer (some ⟨S,0,none⟩), .agg #[.int .i64 d.kind, .int .i64 d.aL, .int .i64 d.spot.x, .int .i64 d.spot.y, .int .i64 d.what]] w (s_ W (W.pd d) w aB S a):=amI d w aB S a W h bq
theorem j'.mod {w aM:World} {aB S:Nat} {a:ae.b6} {W:ae} {T:List Nat} (h:j' w aB S a W) (m:Mod T w aM) (hd:∀ q∈T,q≠S∧q∉bf.b4 a):j' aM aB S a W :=
 ⟨h.eu.mod m λ I=>(hd _ I).1 rfl,h.own.mod m λ q I bQ=>(hd q bQ).2 I,h.aT,h.low⟩
def ae.o3 (W:ae) (l:List b1):Int:=if W.bh≠0 then W.bh else if 200<l.length then 2 else 0
def ae.gI (W:ae) (l:List b1):ae:=if W.o3 l=0 then (W.gC l).1 else ae.zero
def ae.p1 (W:ae) (l:List b1):List Bool:=if W.o3 l=0 then (W.gC l).2 else []
def ae8 (W:ae) (l:List b1) (w:World) (e:Ending) (w':World):Prop :=
 ∃ a' A c,e= .returned (.tuple #[.agg (ae.cells a' (W.gI l)).toArray, .slice A (W.p1 l).length c, .int .i64 (W.o3 l)])∧bf w' w.heap.size a' (W.gI l)∧vS.aF 4 1 w' w.heap.size (κ.af A) A c (W.p1 l)∧(∀ q∈κ.af A,q∉bf.b4 a')∧Ext w w'
theorem aiw {W:ae} {l:List b1} (h:¬ W.bh=0):W.gI l=ae.zero∧W.p1 l= []∧W.o3 l=W.bh:=by
 have he:W.o3 l=W.bh:=by unfold ae.o3;rw [if_pos h]
 unfold ae.gI ae.p1;rw [he,if_neg h,if_neg h];exact ⟨Z,Z,Z⟩
theorem aix {W:ae} {l:List b1} (h:W.bh=0) (az:200<l.length):W.gI l=ae.zero∧W.p1 l= []∧W.o3 l=2:=by
 have he:W.o3 l=2:=by unfold ae.o3;rw [if_neg (by simpa using h),if_pos az]
 unfold ae.gI ae.p1;rw [he];exact ⟨Z,Z,Z⟩
theorem On {W:ae} {l:List b1} (h:W.bh=0) (az:l.length≤200):W.o3 l=0:=by unfold ae.o3;rw [if_neg (by simpa using h),if_neg (by omega)]
theorem Ol {W:ae} {l:List b1} (h:W.bh=0) (az:l.length≤200):W.gI l=(W.gC l).1:=by unfold ae.gI;rw [if_pos (On h az)]
theorem Om {W:ae} {l:List b1} (h:W.bh=0) (az:l.length≤200):W.p1 l=(W.gC l).2:=by unfold ae.p1;rw [if_pos (On h az)]
theorem air (W:ae) (l:List b1) (d:b1):W.gC (l++ [d])=(((W.gC l).1.jV d).getD (W.gC l).1,(W.gC l).2++ [((W.gC l).1.jV d).isSome]):=by
 induction l generalizing W with
 | nil=>simp only [List.nil_append,ae.gC];cases W.jV d<;>rfl
 | cons x r bk =>
  simp only [List.cons_append,ae.gC];cases W.jV x with
  | none=>simp only [bk];rfl
  | some V=>simp only [bk];rfl
theorem Ok {W:ae} {l:List b1} {k:Nat} (av:k<l.length):W.gC (l.take (k+1))=(((W.gC (l.take k)).1.jV (l.getD k default)).getD (W.gC (l.take k)).1,(W.gC (l.take k)).2++ [((W.gC (l.take k)).1.jV (l.getD k default)).isSome]):=by
 rw [← air,List.take_succ_eq_append_getElem av];congr 3;rw [List.getD_eq_getElem?_getD,List.getElem?_eq_getElem av];rfl
theorem aiq (W:ae) (l:List b1):(W.gC l).2.length=l.length:=by
 induction l generalizing W with
 | nil=>rfl
 | cons x r bk =>
  simp only [ae.gC];cases W.jV x with
  | none=>simp only [List.length_cons,bk]
  | some V=>simp only [List.length_cons,bk]
theorem aip (d:b1) (w:World) (aB S:Nat) (a:ae.b6) (W:ae) (h:j' w aB S a W) (bq:Good W):
  Calls prog 100 #[.pointer (some ⟨S,0,none⟩), .agg #[.int .i64 d.kind, .int .i64 d.aL, .int .i64 d.spot.x, .int .i64 d.spot.y, .int .i64 d.what]] w (s_ W (W.jV d) w aB S a):=by
 refine cv (n:=22) func100 Z Z Z ?_;refine aj<|cI Z Z Z Z λ dw bC bg eY ab=> ?_;have:=bg.size;have br:=τ (Ext.bM w) bg;have hx:=br;have eZ:=ab.lt;refine va Z<|ah<|aD<|aj<|J (aw ai1 Z)<|J (ak Z (ab.one aZ Z))<|ah<|bP<|aj<|J (beq Z Z)<|va Z<|ah<| ?_;refine l3 Z (λ Bi=> ?_) (λ Bi=> ?_)
 ·refine aj<|vm Z<|J (ak Z (ab.all FT A4))<|ca ai2 Z Z ((Oj (ap2 d _ aB S a W (h.later br) bq) hx).mono ?_);rintro e uK ⟨a2,rfl,hS,hf,hm⟩;refine ⟨_,Z, ?_⟩;refine va Z<|ah<|rt<|gF<|cf<|bp (.tmp Z .nil)<| ?_;exact ⟨a2,by rw [ae.WT ‹_›];rfl,by rw [ae.WT ‹_›];exact hS,hf,hm⟩
 ·refine aj<|J (beq Z Z)<|va Z<|ah<| ?_;refine l3 Z (λ ig=> ?_) (λ ig=> ?_)
  ·refine aj<|vm Z<|J (ak Z (ab.all FT A4))<|ca ai3 Z Z ((Oj (aiI d _ aB S a W (h.later br) bq) hx).mono ?_);rintro e B_ ⟨a2,rfl,hS,hf,hm⟩;refine ⟨_,Z, ?_⟩;refine va Z<|ah<|rt<|gF<|cf<|bp (.tmp Z .nil)<| ?_;exact ⟨a2,by rw [ae.WR ‹_›];rfl,by rw [ae.WR ‹_›];exact hS,hf,hm⟩
  ·refine aj<|J (beq Z Z)<|va Z<|ah<| ?_;refine l3 Z (λ kV=> ?_) (λ kV=> ?_)
   ·refine aj<|vm Z<|J (ak Z (ab.all FT A4))<|ca ai4 Z Z ((Oj (amJ d _ aB S a W (h.later br) bq) hx).mono ?_);rintro e Ca ⟨a2,rfl,hS,hf,hm⟩;refine ⟨_,Z, ?_⟩;refine va Z<|ah<|rt<|gF<|cf<|bp (.tmp Z .nil)<| ?_;exact ⟨a2,by rw [ae.WS ‹_›];rfl,by rw [ae.WS ‹_›];exact hS,hf,hm⟩
   ·refine hk<|cg<|a6<|aj<|va Z<|ah<|rt<|bp (.tmp Z .nil)<| ?_;exact ⟨a,by rw [ae.WU ‹_› ‹_› ‹_›];rfl,by rw [ae.WU ‹_› ‹_› ‹_›];exact h.later br,λ q I=> .inl I,Mod.bG br⟩
theorem aiv (l:List b1) (A:Option Addr) (c:Nat) (w:World) (a:ae.b6) (W:ae) (bs:ae.Has w a W) (az:b1.rep.aH 40 w A c l):
  Calls prog 63 #[.agg ((ae.cells a W).toArray), .slice A l.length c] w (ae8 W l w):=by
 have lv:=(Ext.bM w).size;refine cv (n:=40) func63 Z Z Z ?_;refine aj<|cI Z Z Z Z λ dw bC bg eY ab=> ?_;have:=bg.size;have br:=τ (Ext.bM w) bg;have eZ:=ab.lt;refine al Z l8 Z Z λ eB c_ bj iF ai=> ?_;have:=bj.size;have bS:=τ br bj;have iJ:=ai.lt;refine va Z<|va Z<|ah<|aD<|aj<| ?_;have ab:=ab.later bj;refine J (ak Z (ab.all dr b2))<|ca Df Z Z ((yF a W _ (bs.keep bS)).mono ?_);rintro e iW ⟨rfl,hl⟩;refine ⟨_,Z, ?_⟩;have:=hl.size;have dp:=τ bS hl;refine va Z<|ah<|aj<|vm Z<|J (bne Z Z)<|ah<| ?_;refine hg Z (λ oi=> ?_) (λ oi=> ?_)
 ·refine aj<|J (v:= .agg #[.int .i64 0, .int .i64 0, .slice none 0 0, .slice none 0 0, .slice none 0 0, .slice none 0 0, .slice none 0 0, .int .i64 0, .int .i64 0]) (cO Z (by kernel_rfl))<|vm Z<| ?_;have ai:=ai.later hl;refine st (new:= [.int .i64 0, .int .i64 0, .slice none 0 0, .slice none 0 0, .slice none 0 0, .slice none 0 0, .slice none 0 0, .int .i64 0, .int .i64 0]) Z Z ai Z b2 Z Z Z λ ED jZ ai=> ?_;have:=jZ.size;have rJ:=Ext.mod dp jZ (bR (by omega));have:=jZ.size;refine va Z<|va Z<|ah<|rt<|cf<|bp (.cell Z (ai.all dr b2) (.tmp Z (.tmp Z .nil)))<| ?_;obtain ⟨aU,bc,cy⟩:=aiw ‹_›;exact ⟨⟨none,none,none,none,none,0,0,0,0,0⟩,none,0,by rw [aU,bc,cy];rfl,by rw [aU];exact bf.zero _ _,by rw [bc];exact κ.aF.nil _,λ q I=>by simp [κ.af] at I,rJ⟩
 ·have bq:=Good.zD oi;refine bx<|aD<|aj<|vm Z<|J (cW underlying125 Z)<|J (jC Z Z)<|ah<| ?_;refine ef Z (λ tK=> ?_) (λ tK=> ?_)
  ·refine aj<|J (v:= .agg #[.int .i64 0, .int .i64 0, .slice none 0 0, .slice none 0 0, .slice none 0 0, .slice none 0 0, .slice none 0 0, .int .i64 0, .int .i64 0]) (cO Z (by kernel_rfl))<| ?_;have ai:=ai.later hl;refine st (new:= [.int .i64 0, .int .i64 0, .slice none 0 0, .slice none 0 0, .slice none 0 0, .slice none 0 0, .slice none 0 0, .int .i64 0, .int .i64 0]) Z Z ai Z b2 Z Z Z λ zW rj ai=> ?_;have:=rj.size;have nr:=Ext.mod dp rj (bR (by omega));have:=rj.size;refine va Z<|va Z<|ah<|rt<|cf<|bp (.cell Z (ai.all dr b2) (.tmp Z (.tmp Z .nil)))<| ?_;obtain ⟨aU,bc,cy⟩:=aix (W:=W) (l:=l) oi (by omega);exact ⟨⟨none,none,none,none,none,0,0,0,0,0⟩,none,0,by rw [aU,bc,cy];rfl,by rw [aU];exact bf.zero _ _,by rw [bc];exact κ.aF.nil _,λ q I=>by simp [κ.af] at I,nr⟩
  ·refine bx<|aj<| ?_;have ab:=ab.later hl;refine J (ak Z (ab.all dr b2))<|ca ai5 Z Z ((aq0 a W _ (bs.keep dp)).mono ?_);rintro e wb ⟨b7,rfl,aN,ho⟩;refine ⟨_,Z, ?_⟩;have:=ho.size;have iN:=τ dp ho;have v7:=λ q I=>(aN.lt q I).2;have lo:=λ q I=>(aN.lt q I).1;refine J (v:= .agg #[.int .i64 W.field.wide, .int .i64 W.field.high, .slice b7.P W.field.aP.length b7.p, .slice b7.B W.aY.length b7.b, .slice b7.S W.a_.length b7.s, .slice b7.M W.bm.length b7.m, .slice b7.T W.ag.length b7.t, .int .i64 W.next, .int .i64 W.now]) (cO Z (by kernel_rfl))<|al Z ai6 Z Z λ we wT nk ao6 wv=> ?_;have:=nk.size;have mB:=τ iN nk;have aca:=wv.lt;refine st (new:= [.int .i64 W.field.wide, .int .i64 W.field.high, .slice b7.P W.field.aP.length b7.p, .slice b7.B W.aY.length b7.b, .slice b7.S W.a_.length b7.s, .slice b7.M W.bm.length b7.m, .slice b7.T W.ag.length b7.t, .int .i64 W.next, .int .i64 W.now]) Z Z wv Z ai7 Z Z Z λ uJ im wv=> ?_;have:=im.size;have k7:=Ext.mod mB im (bR (by omega));have:=im.size;refine ah<|aj<|va Z<|ah<|aD<|aj<|vm Z<|J (cW underlying125 Z)<|vm Z<|ah<|bP<| ?_;have aN:=aN.later nk;have aN:=aN.mod im (cj v7 (by omega));have er:j' uJ iW.heap.size wT b7 W:=⟨wv,aN,λ I=>by have:=v7 _ I;omega,by omega⟩;have ai:=ai.later (τ hl (τ ho nk));have ai:=ai.mod im (bb (by omega));refine fe (λ ck ch aS=>∃ k:Nat,∃ a2:ae.b6,∃ x_:Option Addr,∃ JE:Nat,ch= [(4, .pointer (some ⟨c_,0,none⟩)),(5, .slice none 0 0),(6, .int .i64 0),(8, .pointer (some ⟨wT,0,none⟩)),(9, .slice x_ ((W.gC (l.take k)).2.length) JE),(25, .slice A l.length c),(26, .int .i64 (l.length:Int)),(27, .int .i64 (k:Int))]∧ck=l.length - k∧Ext w aS∧aK aS c_ [.int .i64 0, .int .i64 0, .slice none 0 0, .slice none 0 0, .slice none 0 0, .slice none 0 0, .slice none 0 0, .int .i64 0, .int .i64 0] 28 (0,0)∧j' aS iW.heap.size wT a2 (W.gC (l.take k)).1∧vS.aF 4 1 aS w.heap.size (κ.af x_) x_ JE (W.gC (l.take k)).2∧(k≤l.length)∧(∀ q∈κ.af x_,q≠wT∧q∉bf.b4 a2)∧(∀ q∈κ.af x_,q=c_→False)) _ _ ⟨0,b7,none,0,Z,Z,k7,ai,er,(κ.aF.nil _),by omega,λ q I=>by simp [κ.af] at I,(λ q I Φ=>by (simp [κ.af] at I))⟩ (.cons Z (.cons Z (.cons Z (.cons Z (.cons Z (.cons Z (.cons Z (.cons (bX Z (by first | omega | rfl | (simp<;>omega))) .nil)))))))) ?_;rintro qc axf SG ⟨k,a2,x_,JE,rfl,rfl,qC,ai,er,oc,av,hd,tx⟩;have:=qC.size;have aEj:=ai.lt;have xQ:=λ q I=>(oc.lt q I).2;have Ew:=λ q I=>(er.own.lt q I).2;have DA:=er.eu.lt;have hle:=az.ez;have DE:(W.gC (l.take k)).2.length=k:=by rw [aiq,List.length_take];omega
   refine aj<|J (blt Z Z)<|ah<|aD<| ?_;refine ef Z (λ Be=> ?_) (λ Be=> ?_)
   ·refine bx<|aD<|bP<|aj<|J (bY k underlying125 A4 Z Z ((az.keep qC).bA (a8 k (by omega))) Z (by omega))<|J (ak Z (κ.aH.ic amh (by rw [← (az.keep qC).bA (a8 k (by omega))];exact (az.keep qC)) (dO (l:=l) (u:=default) (by omega)) FT A4))<|al Z ai8 Z Z λ adQ ayf mz aBT IM=> ?_;have:=mz.size;have Iu:=τ qC mz;have acd:=IM.lt;refine st (new:= [.int .i64 ((l.getD k default).kind), .int .i64 ((l.getD k default).aL), .int .i64 ((l.getD k default).spot.x), .int .i64 ((l.getD k default).spot.y), .int .i64 ((l.getD k default).what)]) Z Z IM Z A4 Z Z Z λ avi D_ IM=> ?_;have:=D_.size;have To:=Ext.mod Iu D_ (bR (by omega));have:=D_.size;refine ah<|rg<|vm Z<|J (ak Z (IM.all FT A4))<| ?_;have er:=er.later mz;have er:=er.mod D_ (λ q I=>by rw [List.mem_singleton.1 I];exact ⟨by omega,λ hf=>by have:=Ew _ hf;have:=(er.own.lt _ hf).1;omega⟩);have oc:=oc.later mz;have oc:=oc.mod D_ (cj xQ (by omega));refine ca ai9 Z Z ((aip (l.getD k default) _ iW.heap.size wT a2 (W.gC (l.take k)).1 er (bq.gC _)).mono ?_);rintro e H7 ⟨a3,rfl,afz,hf,iY⟩;refine ⟨_,Z, ?_⟩;have hu:=λ q I=>(oc.lt q I).2;have:=iY.size;have rL:=Ext.mod To iY (λ q I=>(List.mem_cons.1 I).elim (λ h=>by rw [h];omega) (λ h=>by have:=(er.own.lt q h).1;omega));have DD:∀ q∈κ.af x_,q≠wT∧q∉bf.b4 a3:=λ q I=>⟨(hd q I).1,λ h=>(hf q h).elim (hd q I).2 (λ h=>by have:=hu q I;omega)⟩;have afy:=er;have er:=afz;have Ew:=λ q I=>(er.own.lt q I).2;refine cH (e:= 4) (cs:= [.bool (((W.gC (l.take k)).1.jV (l.getD k default)).isSome)]) Z (λ _=>by kernel_rfl) Z λ H8 ayj pJ aBY Ue=> ?_;have:=pJ.size;have pP:=τ rL pJ;have ase:=Ue.lt;have oc:=oc.mod iY (λ q I h=>(List.mem_cons.1 h).elim (hd q I).1 (hd q I).2);have oc:=oc.later pJ;refine ap afg κ.dV oc (aK.gv (R:=vS) (by_:=1) (q:=((W.gC (l.take k)).1.jV (l.getD k default)).isSome) Ue ⟨Z,trivial⟩ (by decide)) Z Z (by simp only [List.length_cons,List.length_nil];omega) (by simp only [List.length_cons,List.length_nil];omega) pP.size Z λ sG TN ahl mh U6 XU aDi=> ?_;have:=mh.size;have rO:=Ext.mod pP mh (λ q I=>(oc.lt q I).1);have adx:=λ q I=>(U6.lt q I).2;have:=mh.size;have aml:∀ q∈κ.af TN,q≠wT∧q∉bf.b4 a3:=λ q I=>(XU q I).elim (DD q) (λ h=>⟨by omega,λ hf=>by have:=Ew q hf;omega⟩);refine va Z<|nl<|cg<|a6<|rg<|J (bad Z Z (bF (by omega)))<|vm Z<|nl<| ?_;have ai:=ai.later mz;have ai:=ai.mod D_ (bb (by omega));have ai:=ai.mod iY (λ h=>(List.mem_cons.1 h).elim (λ h=>by omega) (λ h=>by have:=(afy.own.lt _ h).1;omega));have ai:=ai.later pJ;have ai:=ai.mod mh (λ I=>tx _ I rfl);have er:=er.later pJ;have er:=er.mod mh (λ q I=>DD q I);exact du _ _ ⟨k+1,a3,TN,ahl,Z,Z,rO,ai,(by rw [Ok (by omega:k<l.length)];exact er),(by rw [Ok (by omega:k<l.length)];exact U6),by omega,aml,(λ q I Φ=>by (exact Or.elim (XU q I) (λ Hm=>by (exact tx q Hm Φ)) (λ Hm=>by omega)))⟩ (by omega) (.cons Z (.cons Z (.cons Z (.cons Z (.cons (by rw [Ok (by omega:k<l.length)];rfl) (.cons Z (.cons Z (.cons (bX Z (by first | omega | rfl | (simp<;>omega))) .nil))))))))
   ·refine dG<|dF<|eb<|dE<|a6<|aj<|J (aw lh Z)<|J (ak Z (er.eu.all dr b2))<|vm Z<|st Z Z ai Z b2 Z Z Z λ Cd gj ai=> ?_;have:=gj.size;have lR:=Ext.mod qC gj (bR (by omega));have:=gj.size;refine va Z<|va Z<|ah<|rt<|bp (.cell Z (ai.all dr b2) (.tmp Z (.tmp Z .nil)))<| ?_;have er:=er.mod gj (λ q I=>by rw [List.mem_singleton.1 I];exact ⟨by omega,λ hf=>by have:=Ew _ hf;have:=(er.own.lt _ hf).1;omega⟩);have oc:=oc.mod gj (λ q I h=>by have Φ:=List.mem_singleton.1 h;exfalso;(exact tx q I Φ));obtain rfl:k=l.length:=by omega
    refine ⟨a2,x_,JE, ?_, ?_, ?_,λ q I=>(hd q I).2,lR⟩
    ·rw [Ol oi (by omega),Om oi (by omega),On oi (by omega),List.take_length];rfl
    ·rw [Ol oi (by omega)];rw [List.take_length] at er;exact er.own.down (by omega)
    ·rw [Om oi (by omega)];rw [List.take_length] at oc;exact oc
end
section
open Go.RowKit
def wt (t:aW):Int:=t.load+ae.jo t.kind
def ae.total (W:ae):Int:=W.bm.sum+W.a_.sum+(W.ag.map wt).sum
def ae.aGx (W:ae):Int:=if W.bh=0 then W.total else 0
end
section
open Go.RowKit
theorem afc:Fa prog aW.cells 66 :=by
 intro a b w;obtain ⟨a0,b7,a2,⟨a3,a4⟩,a5,NI⟩:=a;obtain ⟨FG,kR,eF,⟨fK,wS⟩,C1,Vu⟩:=b;simp only [aW.cells,aW.mk.injEq,ar.mk.injEq];constructor
 ·go_simp
  repeat' split
  all_goals simp_all
 ·go_simp
  repeat' split
  all_goals simp_all
theorem afb:(prog).eqGuardType (prog).depth 66 =false:=by kernel_rfl
theorem OO {α:Type} {l m:List α} {k:Nat} (γ:l.length=m.length) (av:l.length≤k) (h:∀ j,j<k→l[j]? =m[j]?):l=m:=by
 apply List.ext_getElem?;intro j;by_cases ay:j<k
 ·exact h j ay
 ·rw [List.getElem?_eq_none (by omega),List.getElem?_eq_none (by omega)]
theorem Ro {α:Type} [DecidableEq α] {a b:α} (h:(!decide (a=b))=true):¬ a=b:=by simpa using h
theorem OP {α:Type} [DecidableEq α] {a b:α} (h:(!decide (a=b))=false):a=b:=by simpa using h
theorem ako (A B:Option Addr) (c d kR eF:Nat) (l m:List aW) (w:World) (γ:aW.rep.aH kR w A c l) (aa:aW.rep.aH eF w B d m):
  Calls prog 30 #[.slice A l.length c, .slice B m.length d] w (λ e w'=>e= .returned (.bool (decide (l=m)))∧Ext w w'):=by
 have hle:=γ.ez;refine cv (n:=26) func30 Z Z Z ?_;refine aj<|va Z<|ah<|aD<|aj<|vm Z<|J (cW underlying26 Z)<|vm Z<|J (cW underlying26 Z)<|J (bne Z Z)<|ah<| ?_;refine hg Z (λ ll=> ?_) (λ ll=> ?_)
 ·refine aj<|va Z<|ah<|rt<|cf<|bp (.tmp Z .nil)<| ?_;rw [decide_eq_false (λ e=>ll (by rw [e]))];exact ⟨Z,(Ext.bM w)⟩
 ·refine bx<|aD<|aj<|vm Z<|J (cW underlying26 Z)<|vm Z<|ah<|bP<| ?_;refine fe (λ ck ch aS=>∃ k:Nat,ch= [(0, .slice A l.length c),(1, .slice B m.length d),(12, .int .i64 (l.length:Int)),(13, .int .i64 (k:Int))]∧ck=l.length - k∧Ext w aS∧(k≤l.length)∧(∀ j,j<k→l[j]? =m[j]?)) _ _ ⟨0,Z,Z,(Ext.bM w),by omega,λ j ay=>absurd ay (by omega)⟩ (.cons Z (.cons Z (.cons Z (.cons (bX Z (by first | omega | rfl | (simp<;>omega))) .nil)))) ?_;rintro D9 CN qs ⟨k,rfl,rfl,c0,av,gP⟩;have:=c0.size;have hle:=γ.ez;have Qk:=aa.ez;refine aj<|J (blt Z Z)<|ah<|aD<| ?_;refine ef Z (λ l9=> ?_) (λ l9=> ?_)
  ·obtain ⟨eh,iE⟩:=gg (l:=l) (i:=k) (by omega);obtain ⟨pL,tX⟩:=gg (l:=m) (i:=k) (by omega);refine bx<|aD<|bP<|aj<|vm Z<|va Z<|ah<|aD<| ?_;refine rd [(3,0),(7,0)] [0,1,2,3,4,5,6,7,8] (by kernel_rfl) (by kernel_rfl) ?_;refine aq Z (λ _=>aJ Z)<|aq Z (λ _=>aJ Z)<|aq Z (λ _=>bY k underlying26 h2 Z Z ((γ.keep c0).bA (a8 k (by omega))) Z (by omega))<|bD Z (λ _ x=>ak Z (κ.aH.ic ih (by rw [← (γ.keep (τ c0 x)).bA (a8 k (by omega))];exact (γ.keep (τ c0 x))) iE vu h2))<|aq Z (λ _=>aJ Z)<|aq Z (λ _=>aJ Z)<|aq Z (λ _=>bY k underlying26 h2 Z Z ((aa.keep c0).bA (a8 k (by omega))) Z (by omega))<|bD Z (λ _ x=>ak Z (κ.aH.ic ih (by rw [← (aa.keep (τ c0 x)).bA (a8 k (by omega))];exact (aa.keep (τ c0 x))) tX vu h2))<|aq Z (λ _=>Jx afc afb (p:=eh) (q:=pL) Z Z)<|fn λ xY iZ=> ?_;have:=iZ.size;have j7:=τ c0 iZ;refine a6<| ?_;refine fk Z (λ ig=> ?_) (λ ig=> ?_)
   ·refine aj<|va Z<|ah<|rt<|gF<|cf<|sA<|gF<|cf<|bp (.tmp Z .nil)<| ?_;rw [decide_eq_false (λ e=>by rw [e,tX] at iE;injection iE with iE;exact absurd iE.symm (by first | exact Ro ig | exact ig))];exact ⟨Z,j7⟩
   ·refine hk<|cg<|a6<|rg<|J (bad Z Z (bF (by omega)))<|vm Z<|nl<| ?_;exact du _ _ ⟨k+1,Z,Z,j7,by omega,vE gP (by rw [iE,tX,(by first | exact OP ig | exact ig:eh=pL)])⟩ (by omega) (.cons Z (.cons Z (.cons Z (.cons (bX Z (by first | omega | rfl | (simp<;>omega))) .nil))))
  ·refine dG<|dF<|eb<|dE<|a6<|aj<|va Z<|ah<|rt<|bp (.tmp Z .nil)<| ?_;rw [decide_eq_true (OO (by omega) (by omega) gP)];exact ⟨Z,c0⟩
theorem akp (A B:Option Addr) (c d kR eF:Nat) (l m:List Int) (w:World) (γ:bz.aH kR w A c l) (aa:bz.aH eF w B d m):
  Calls prog 31 #[.slice A l.length c, .slice B m.length d] w (λ e w'=>e= .returned (.bool (decide (l=m)))∧Ext w w'):=by
 have hle:=γ.ez;refine cv (n:=26) func31 Z Z Z ?_;refine aj<|va Z<|ah<|aD<|aj<|vm Z<|J (cW underlying22 Z)<|vm Z<|J (cW underlying22 Z)<|J (bne Z Z)<|ah<| ?_;refine hg Z (λ ll=> ?_) (λ ll=> ?_)
 ·refine aj<|va Z<|ah<|rt<|cf<|bp (.tmp Z .nil)<| ?_;rw [decide_eq_false (λ e=>ll (by rw [e]))];exact ⟨Z,(Ext.bM w)⟩
 ·refine bx<|aD<|aj<|vm Z<|J (cW underlying22 Z)<|vm Z<|ah<|bP<| ?_;refine fe (λ ck ch aS=>∃ k:Nat,ch= [(0, .slice A l.length c),(1, .slice B m.length d),(12, .int .i64 (l.length:Int)),(13, .int .i64 (k:Int))]∧ck=l.length - k∧Ext w aS∧(k≤l.length)∧(∀ j,j<k→l[j]? =m[j]?)) _ _ ⟨0,Z,Z,(Ext.bM w),by omega,λ j ay=>absurd ay (by omega)⟩ (.cons Z (.cons Z (.cons Z (.cons (bX Z (by first | omega | rfl | (simp<;>omega))) .nil)))) ?_;rintro D9 CN qs ⟨k,rfl,rfl,c0,av,gP⟩;have:=c0.size;have hle:=γ.ez;have Qk:=aa.ez;refine aj<|J (blt Z Z)<|ah<|aD<| ?_;refine ef Z (λ l9=> ?_) (λ l9=> ?_)
  ·obtain ⟨eh,iE⟩:=gg (l:=l) (i:=k) (by omega);obtain ⟨pL,tX⟩:=gg (l:=m) (i:=k) (by omega);refine bx<|aD<|bP<|aj<|vm Z<|va Z<|ah<|aD<| ?_;refine rd [(3,0),(7,0)] [0,1,2,3,4,5,6,7,8] (by kernel_rfl) (by kernel_rfl) ?_;refine aq Z (λ _=>aJ Z)<|aq Z (λ _=>aJ Z)<|aq Z (λ _=>bY k underlying22 cz Z Z ((γ.keep c0).bA (a8 k (by omega))) Z (by omega))<|bD Z (λ _ x=>ak Z (κ.aH.e9 fo (by rw [← (γ.keep (τ c0 x)).bA (a8 k (by omega))];exact (γ.keep (τ c0 x))) iE Z aZ))<|aq Z (λ _=>aJ Z)<|aq Z (λ _=>aJ Z)<|aq Z (λ _=>bY k underlying22 cz Z Z ((aa.keep c0).bA (a8 k (by omega))) Z (by omega))<|bD Z (λ _ x=>ak Z (κ.aH.e9 fo (by rw [← (aa.keep (τ c0 x)).bA (a8 k (by omega))];exact (aa.keep (τ c0 x))) tX Z aZ))<|aq Z (λ _=>bne Z Z)<|fn λ xY iZ=> ?_;have:=iZ.size;have j7:=τ c0 iZ;refine a6<| ?_;refine hg Z (λ ig=> ?_) (λ ig=> ?_)
   ·refine aj<|va Z<|ah<|rt<|gF<|cf<|sA<|gF<|cf<|bp (.tmp Z .nil)<| ?_;rw [decide_eq_false (λ e=>by rw [e,tX] at iE;injection iE with iE;exact absurd iE.symm (by first | exact Ro ig | exact ig))];exact ⟨Z,j7⟩
   ·refine hk<|cg<|a6<|rg<|J (bad Z Z (bF (by omega)))<|vm Z<|nl<| ?_;exact du _ _ ⟨k+1,Z,Z,j7,by omega,vE gP (by rw [iE,tX,(by first | exact OP ig | exact ig:eh=pL)])⟩ (by omega) (.cons Z (.cons Z (.cons Z (.cons (bX Z (by first | omega | rfl | (simp<;>omega))) .nil))))
  ·refine dG<|dF<|eb<|dE<|a6<|aj<|va Z<|ah<|rt<|bp (.tmp Z .nil)<| ?_;rw [decide_eq_true (OO (by omega) (by omega) gP)];exact ⟨Z,c0⟩
end
section
open Go.RowKit
def e2:ae:=⟨⟨3,1, [0,0,3]⟩, [⟨0,0⟩], [20], [0,0,9], [⟨1,0,1,⟨1,0⟩,10,0⟩],2,0⟩
def atb:List b1:= [(⟨1,1,⟨2,0⟩,0⟩:b1),(⟨3,0,⟨0,0⟩,2⟩:b1)]
def aEG:ae:=e2.gI atb
theorem atc  (w:World):
  Calls prog 48 #[] w (λ e w'=>∃ a,e= .returned (.agg (ae.cells a e2).toArray)∧bf w' w.heap.size a e2∧Ext w w'):=by
 refine cv (n:=11) func48 Z Z Z ?_;refine aj<|al Z l8 Z Z λ dw bC bg eY ab=> ?_;have:=bg.size;have br:=τ (Ext.bM w) bg;have eZ:=ab.lt;refine ah<|aj<|cH (e:= 3) (cs:= [.int .i64 0, .int .i64 0, .int .i64 3]) Z (λ _=>by kernel_rfl) Z λ eB c_ bj iF ai=> ?_;have:=bj.size;have bS:=τ br bj;have iJ:=ai.lt;refine J (v:= .agg #[.int .i64 3, .int .i64 1, .slice (some ⟨c_,0,none⟩) 3 3]) (cO Z (by kernel_rfl))<|J (v:= .agg #[.int .i64 0, .int .i64 0]) (cO Z (by kernel_rfl))<|cH (e:= 49) (cs:= [.int .i64 0, .int .i64 0]) Z (λ _=>by kernel_rfl) Z λ iW hb b0 qa a7=> ?_;have:=b0.size;have dp:=τ bS b0;have pC:=a7.lt;refine cH (e:= 3) (cs:= [.int .i64 20]) Z (λ _=>by kernel_rfl) Z λ oD C3 fP QW nx=> ?_;have:=fP.size;have fG:=τ dp fP;have LR:=nx.lt;refine cH (e:= 3) (cs:= [.int .i64 0, .int .i64 0, .int .i64 9]) Z (λ _=>by kernel_rfl) Z λ wb Jn h' ao5 qH=> ?_;have:=h'.size;have iN:=τ fG h';have aEb:=qH.lt;refine J (v:= .agg #[.int .i64 1, .int .i64 0]) (cO Z (by kernel_rfl))<|J (v:= .agg #[.int .i64 1, .int .i64 0, .int .i64 1, .int .i64 1, .int .i64 0, .int .i64 10, .int .i64 0]) (cO Z (by kernel_rfl))<|cH (e:= 66) (cs:= [.int .i64 1, .int .i64 0, .int .i64 1, .int .i64 1, .int .i64 0, .int .i64 10, .int .i64 0]) Z (λ _=>by kernel_rfl) Z λ adN Jo gU ao7 wx=> ?_;have:=gU.size;have Ct:=τ iN gU;have ar6:=wx.lt;refine J (v:= .agg #[.int .i64 3, .int .i64 1, .slice (some ⟨c_,0,none⟩) 3 3, .slice (some ⟨hb,0,none⟩) 1 1, .slice (some ⟨C3,0,none⟩) 1 1, .slice (some ⟨Jn,0,none⟩) 3 3, .slice (some ⟨Jo,0,none⟩) 1 1, .int .i64 2, .int .i64 0]) (cO Z (by kernel_rfl))<| ?_;have ab:=ab.later (τ bj (τ b0 (τ fP (τ h' gU))));refine st (new:= [.int .i64 3, .int .i64 1, .slice (some ⟨c_,0,none⟩) 3 3, .slice (some ⟨hb,0,none⟩) 1 1, .slice (some ⟨C3,0,none⟩) 1 1, .slice (some ⟨Jn,0,none⟩) 3 3, .slice (some ⟨Jo,0,none⟩) 1 1, .int .i64 2, .int .i64 0]) Z Z ab Z b2 Z Z Z λ xX mg ab=> ?_;have:=mg.size;have jM:=Ext.mod Ct mg (bR (by omega));have:=mg.size;refine ah<|rt<|bp (.cell Z (ab.all dr b2) .nil)<| ?_;have ai:=ai.later (τ b0 (τ fP (τ h' gU)));have ai:=ai.mod mg (bb (by omega));have a7:=a7.later (τ fP (τ h' gU));have a7:=a7.mod mg (bb (by omega));have nx:=nx.later (τ h' gU);have nx:=nx.mod mg (bb (by omega));have qH:=qH.later gU;have qH:=qH.mod mg (bb (by omega));have wx:=wx.mod mg (bb (by omega));exact ⟨⟨some ⟨c_,0,none⟩,some ⟨hb,0,none⟩,some ⟨C3,0,none⟩,some ⟨Jn,0,none⟩,some ⟨Jo,0,none⟩,3,1,1,3,1⟩,Z,⟨aK.ru (R:=bz) (by_:=8) (B:=w.heap.size) (k:= [0,0,3]) ai [[.int .i64 0], [.int .i64 0], [.int .i64 3]] Z ⟨⟨Z,bt.2 (by decide)⟩,⟨Z,bt.2 (by decide)⟩,⟨Z,bt.2 (by decide)⟩,trivial⟩ (by simp) (by simp) (by decide) (by omega),aK.ru (R:=ar.rep) (by_:=16) (B:=w.heap.size) (k:= [⟨0,0⟩]) a7 [[.int .i64 0, .int .i64 0]] Z ⟨⟨Z,bt.2 (by decide),bt.2 (by decide)⟩,trivial⟩ (by simp) (by simp) (by decide) (by omega),aK.ru (R:=bz) (by_:=8) (B:=w.heap.size) (k:= [20]) nx [[.int .i64 20]] Z ⟨⟨Z,bt.2 (by decide)⟩,trivial⟩ (by simp) (by simp) (by decide) (by omega),aK.ru (R:=bz) (by_:=8) (B:=w.heap.size) (k:= [0,0,9]) qH [[.int .i64 0], [.int .i64 0], [.int .i64 9]] Z ⟨⟨Z,bt.2 (by decide)⟩,⟨Z,bt.2 (by decide)⟩,⟨Z,bt.2 (by decide)⟩,trivial⟩ (by simp) (by simp) (by decide) (by omega),aK.ru (R:=aW.rep) (by_:=56) (B:=w.heap.size) (k:= [⟨1,0,1,⟨1,0⟩,10,0⟩]) wx [[.int .i64 1, .int .i64 0, .int .i64 1, .int .i64 1, .int .i64 0, .int .i64 10, .int .i64 0]] Z ⟨⟨Z,bt.2 (by decide),bt.2 (by decide),bt.2 (by decide),bt.2 (by decide),bt.2 (by decide),bt.2 (by decide),bt.2 (by decide)⟩,trivial⟩ (by simp) (by simp) (by decide) (by omega),by simp [κ.af];omega,bt.2 (by decide),bt.2 (by decide),bt.2 (by decide),bt.2 (by decide)⟩,jM⟩
end
section
open Go.RowKit
theorem aqp:∀ (n:Nat) (l:List Nat),l.Nodup→(∀ x∈l,x<n)→l.length≤n:=by
 intro n;induction n with
 | zero =>
  intro l _ h;cases l with
  | nil=>exact Nat.le_refl _
  | cons x r=>exact absurd (h x List.mem_cons_self) (by omega)
 | succ n bk =>
  intro l hn h;by_cases hm:n∈l
  ·have γ:=bk (l.erase n) (hn.erase _) (λ x hx=>by
    have:=h x (List.mem_of_mem_erase hx);have dK:x≠n:=λ e=>by subst e;exact (List.Nodup.not_mem_erase hn) hx
    omega)
   rw [List.length_erase_of_mem hm] at γ;omega
  ·have:=bk l hn (λ x hx=>by
    have:=h x hx;have dK:x≠n:=λ e=>hm (by rw [← e];exact hx)
    omega)
   omega
section
variable {f:aC} {a b c x y:ar} {d D:Int} {aT:List Int} {ax:ar→Int}
theorem ahB (hf:f.bh=0) {l:List ar} (hn:l.Nodup) (ao:∀ x∈l,f.ek x=true):l.length≤f.aP.length:=by
 have γ:(l.map f.at_).Nodup:=by
  have:∀ l:List ar,l.Nodup→(∀ x∈l,f.ek x=true)→(l.map f.at_).Nodup:=by
   intro l;induction l with
   | nil=>intro _ _;exact List.nodup_nil
   | cons x r bk =>
    intro hn ao;rw [List.nodup_cons] at hn;rw [List.map_cons,List.nodup_cons];refine ⟨λ hm=> ?_,bk hn.2 λ y aG=>ao y (List.mem_cons_of_mem _ aG)⟩;obtain ⟨y,aG,e⟩:=List.mem_map.1 hm;have:=aC.Vs hf (ao y (List.mem_cons_of_mem _ aG)) (ao x List.mem_cons_self) e;subst this;exact hn.1 aG
  exact this l hn ao
 have:=aqp f.aP.length _ γ (λ i hm=>by
  obtain ⟨y,aG,rfl⟩:=List.mem_map.1 hm;exact (aC.ve hf (ao y aG)).1)
 rwa [List.length_map] at this
abbrev kP (f:aC) (a:ar):ar→Int→Prop:=oa.mG f.cx f.fv (λ s=>s=a)
abbrev pS (f:aC) (a:ar):ar→Int→Prop:=oa.qN f.cx f.fv (λ s=>s=a)
theorem kP.vK (r:kP f a x d):0≤d:=oa.mG.vK (aC.Ry f) r
theorem kP.ground (ha:f.ground a=true) (r:kP f a x d):f.ground x=true:=by
 induction r with
 | start hs=>rw [hs];exact ha
 | step _ aG _=>exact (aC.HA.1 aG).2
theorem kP.iK (r:kP f a x d) {e:Int} (q:kP f x y e):kP f a y (d+e):=by
 induction q with
 | start hs=>rw [hs,Int.add_zero];exact r
 | step _ aG bk=>rw [← Int.add_assoc];exact .step bk aG
theorem pS.pred (h:pS f a x d):(x=a∧d=0)∨∃ p e,pS f a p e∧x∈f.cx p∧d=e+f.fv x:=by
 obtain ⟨r,hm⟩:=h;cases r with
 | start hs=>exact .inl ⟨hs,rfl⟩
 | @step p _ e hp aG =>
  obtain ⟨e',he⟩:=oa.mG.ZK (aC.Ry f) hp;have γ:=he.2 _ hp;have aa:=hm _ (.step he.1 aG);have:e=e':=by omega
  subst this;exact .inr ⟨p,e,he,aG,Z⟩
theorem pS.chain (hf:f.bh=0) (ha:f.ground a=true):∀ (n:Nat) (x:ar) (d:Int),pS f a x d→d.toNat=n→∃ l:List ar,l.Nodup∧(∀ y∈l,f.ek y=true∧∃ e,pS f a y e∧e≤d)∧d+3≤3 * (l.length:Int):=by
 intro n;induction n using Nat.strongRecOn with
 | ind n bk =>
  intro x d h hn;have hx:=aC.iD (kP.ground ha h.1);rcases h.pred with ⟨γ,aa⟩ | ⟨p,e,γ,aa,au⟩
  ·refine ⟨[x],by simp,λ y aG=> ?_,by rw [aa];simp⟩;rw [List.mem_singleton.1 aG];exact ⟨hx,d,h,Int.le_refl _⟩
  ·have av:=f.nU (c:=x);have he:=kP.vK γ.1;obtain ⟨l,dL,ij,aaW⟩:=bk e.toNat (by omega) p e γ rfl;refine ⟨x::l,List.nodup_cons.2 ⟨λ hm=> ?_,dL⟩,λ y aG=> ?_,by rw [List.length_cons];omega⟩
   ·obtain ⟨_,e',a1,bO⟩:=ij x hm;have:=a1.uniq h;omega
   ·rcases List.mem_cons.1 aG with rfl | aG
    ·exact ⟨hx,d,h,Int.le_refl _⟩
    ·obtain ⟨a1,e',bO,b_⟩:=ij y aG;exact ⟨a1,e',bO,by omega⟩
theorem pS.cO (hf:f.bh=0) (ha:f.ground a=true) (h:pS f a x d):d+3≤3 * (f.aP.length:Int):=by
 obtain ⟨l,dL,ij,aaW⟩:=h.chain hf ha _ x d rfl;have:=ahB hf dL λ y aG=>(ij y aG).1;omega
def cellAt (f:aC) (i:Nat):ar:=⟨(i:Int) % f.wide,(i:Int) / f.wide⟩
theorem ahu (hf:f.bh=0) (hc:f.ek c=true):cellAt f (f.at_ c)=c:=by
 obtain ⟨_,_,a2,a3,a4,a5⟩:=aC.idx hf hc;have h:=(aC.ve hf hc).2;unfold cellAt;rw [h];have aU:(c.y * f.wide+c.x) % f.wide=c.x:=by rw [Int.add_comm,Int.add_mul_emod_self_right,Int.emod_eq_of_lt a2 a3]
 have bc:(c.y * f.wide+c.x) / f.wide=c.y:=by rw [Int.add_comm,Int.add_mul_ediv_right _ _ (by omega),Int.ediv_eq_zero_of_lt a2 a3,Int.zero_add]
 rw [aU,bc]
theorem akR (hf:f.bh=0) {g:ar→Int} (aO:∀ c,f.ek c=false→g c= -1):f.ax ((List.range f.aP.length).map λ i=>g (cellAt f i)) c=g c:=by
 cases hc:f.ek c with
 | false=>rw [aC.O4 hc,aO c hc]
 | true =>
  rw [aC.Dn hc,List.getD_eq_getElem?_getD,List.getElem?_map,List.getElem?_range (aC.ve hf hc).1];show g (cellAt f (f.at_ c))=g c;rw [ahu hf hc]
theorem abO (hf:f.bh=0) (ha:f.ground a=true) (b:ar):∃ aT,nC f a b aT:=by
 let Q:ar→Int→Prop:=λ c d=>pS f a c d∧∀ D,pS f a b D→d+aC.jf b c≤D
 let g:ar→Int:=λ c=>@dite _ (∃ d,Q c d) (Classical.propDecidable _) (λ h=>h.choose) λ _=> -1
 have Ko:∀ c d,Q c d→g c=d:=λ c d h=>by
  have hex:∃ d,Q c d:=⟨d,h⟩;show @dite _ (∃ d,Q c d) (Classical.propDecidable _) (λ h=>h.choose) (λ _=> -1)=d;rw [dif_pos hex];exact hex.choose_spec.1.uniq h.1
 have gn:∀ c,(¬ ∃ d,Q c d)→g c= -1:=λ c h=>by
  show @dite _ (∃ d,Q c d) (Classical.propDecidable _) (λ h=>h.choose) (λ _=> -1)= -1;rw [dif_neg h]
 have Km:∀ c,0≤g c→Q c (g c):=λ c h=>by
  by_cases hex:∃ d,Q c d
  ·obtain ⟨d,hd⟩:=hex;rw [Ko c d hd];exact hd
  ·rw [gn c hex] at h;omega
 have go:∀ c,f.ek c=false→g c= -1:=λ c hc=>gn c λ ⟨d,hd⟩=>by
  have:=aC.iD (kP.ground ha hd.1.1);rw [hc] at this;cases this
 have lp:∀ c,f.ax ((List.range f.aP.length).map λ i=>g (cellAt f i)) c=g c:=λ c=>akR hf go;refine ⟨(List.range f.aP.length).map λ i=>g (cellAt f i),by rw [List.length_map,List.length_range],⟨λ c h=> ?_,λ c h=> ?_,λ c d hd hle=> ?_,λ c h=> ?_⟩,λ c=> ?_,λ c h=> ?_⟩
 ·rw [lp c] at h ⊢;by_cases hex:∃ d,Q c d
  ·obtain ⟨d,hd⟩:=hex;rw [Ko c d hd] at h;have:=kP.vK hd.1.1;omega
  ·exact gn c hex
 ·rw [lp c] at h ⊢;exact Km c h
 ·rw [lp c];exact Ko c d ⟨hd,hle⟩
 ·rw [lp c] at h ⊢;have I:=Km c h;rcases I.1.pred with γ | ⟨p,e,γ,aa,au⟩
  ·exact .inl γ
  ·right;have he:=aC.OU b (aC.HA.1 aa).1;have av:=f.nU (c:=c);have hp:g p=e:=Ko p e ⟨γ,λ D r9=>by have:=I.2 D r9;omega⟩;exact ⟨p,by rw [lp p,hp];exact kP.vK γ.1,aa,by rw [lp p,hp];exact au⟩
 ·rw [lp c];by_cases h:0≤g c
  ·have:=(Km c h).1.cO hf ha;omega
  ·omega
 ·rw [lp c] at h;exact kP.ground ha (Km c h).1.1
theorem O3 (hf:f.bh=0) (ha:f.ground a=true):oa.Spec f.cx f.fv (aC.jf b) (λ s=>s=a) b (cp f a b):=by
 obtain ⟨aT,h⟩:=abO hf ha b;rw [← h.Kh];exact h.spec
theorem F1 (hf:f.bh=0) (ha:f.ground a=true) (h:0≤cp f a b c):pS f a c (cp f a b c):=((O3 hf ha).mJ c h).1
theorem XO (hf:f.bh=0) (ha:f.ground a=true) (h:pS f a b d):cp f a b b=d:=(O3 hf ha).end_ (aC.OT b) h
theorem akQ (hf:f.bh=0) (ha:f.ground a=true) (h:kP f a b d):0≤cp f a b b∧cp f a b b≤d:=by
 obtain ⟨e,he⟩:=oa.mG.ZK (aC.Ry f) h;rw [XO hf ha he];exact ⟨kP.vK he.1,he.2 _ h⟩
theorem F2 (hf:f.bh=0) (ha:f.ground a=true) (h:0≤cp f a b b):mD f a (cp f a b):=by
 obtain ⟨aT,hp⟩:=abO hf ha b;exact mD.BW hp h
theorem avq (h:mD f a ax):∀ (n:Nat) (c:ar),0≤ax c→(ax c).toNat=n→∀ x∈eT f ax a c,0≤ax x∧ax x≤ax c∧f.ground x=true:=by
 intro n;induction n using Nat.strongRecOn with
 | ind n bk =>
  intro c hc hn x hx;by_cases e:c=a
  ·subst e;rw [x0 h] at hx;rw [List.mem_singleton.1 hx];exact ⟨hc,Int.le_refl _,h.gr _ hc⟩
  ·obtain ⟨dY,eS,lD,vM⟩:=h.prev hc e;have av:=f.nU (c:=c);rw [x1 h hc e] at hx;rcases List.mem_cons.1 hx with rfl | hx
   ·exact ⟨hc,Int.le_refl _,h.gr _ hc⟩
   ·obtain ⟨j1,nd,xJ⟩:=bk _ (by omega) _ lD rfl x hx;exact ⟨j1,by omega,xJ⟩
theorem OY (he:fT f a b=0):f.bh=0∧f.ground a=true∧f.ground b=true∧0≤cp f a b b∧mM f a b=cp f a b b∧eW f a b=(eT f (cp f a b) a b).reverse:=by
 rcases OX f a b with ⟨γ,aa⟩ | ⟨γ,aa,au⟩ | ⟨γ,aa,au,a1⟩ | ⟨γ,aa,au,a1 | a1⟩
 ·rw [aa] at he;exact absurd he γ
 ·rw [au] at he;exact absurd he aa
 ·rw [a1] at he;cases he
 ·rw [a1.2] at he;cases he
 ·refine ⟨γ,aa,au,a1.1, ?_, ?_⟩
  ·unfold mM;rw [if_pos he]
  ·unfold eW;rw [if_pos he]
end
end
section
open Go.RowKit
def aCG:List aW:= [⟨1,0,1,⟨2,0⟩,10,0⟩]
def aCF:List cS:= [⟨1,⟨2,0⟩⟩]
end
section
open Go.RowKit
def Aq (s t:aW):Prop:=s.id<t.id∧s.spot≠t.spot
theorem Pf {α:Type} [Inhabited α] {l:List α} {i:Nat} {t:α} (h:l[i]? =some t):l.getD i default=t:=by rw [List.getD_eq_getElem?_getD,h];rfl
theorem Good.aoj {W:ae} (bq:Good W) {i j:Nat} {s t:aW} (ke:i<j) (hs:W.ag[i]? =some s) (aA:W.ag[j]? =some t):s.id<t.id:=by
 induction j generalizing t with
 | zero=>omega
 | succ j bk =>
  have ay:=(List.getElem?_eq_some_iff.1 aA).1;obtain ⟨u,hu⟩:=gg (l:=W.ag) (i:=j) (by omega);have γ:=(bq.ids (j+1) t aA).1;have aa:W.ik (j+1)=u.id:=by
   unfold ae.ik;rw [if_neg (by omega),Nat.add_sub_cancel,Pf hu]
  rcases Nat.lt_succ_iff_lt_or_eq.1 ke with h | rfl
  ·have:=bk h hu;omega
  ·rw [hs] at hu;injection hu with hu;subst hu;omega
theorem Good.Eh {W:ae} (bq:Good W):W.ag.Pairwise Aq:=by
 rw [List.pairwise_iff_getElem];intro i j ao ay ke;have hs:=List.getElem?_eq_getElem ao;have aA:=List.getElem?_eq_getElem ay;refine ⟨bq.aoj ke hs aA,λ e=> ?_⟩;have γ:=bq.hM j _ aA;rw [← e] at γ;have:(W.hM j).contains (W.ag[i]).spot=true:=by
  rw [List.contains_iff_mem];unfold ae.hM;exact List.mem_map.2 ⟨_,List.mem_iff_getElem?.2 ⟨i,by rw [List.getElem?_take,if_pos ke,hs]⟩,Z⟩
 rw [this] at γ;exact nomatch γ
theorem Good.each {W:ae} (bq:Good W) {t:aW} (aA:t∈W.ag):0<t.id∧t.id<W.next∧Jd W.field W.aY.length t:=by
 obtain ⟨i,ao⟩:=List.mem_iff_getElem?.1 aA;have γ:=bq.ids i t ao;exact ⟨by omega,γ.2.1,bq.ag i t ao⟩
theorem Good.abF {W V:ae} (bq:Good W) (hf:V.field=W.field) (Φ:V.aY=W.aY) (hs:V.a_=W.a_) (hm:V.bm=W.bm) (hn:V.next=W.next) (bJ:0≤V.now∧V.now≤1000000) (az:V.ag.length≤100) (b3:V.ag.Pairwise Aq)
  (di:∀ t∈V.ag,0<t.id∧t.id<V.next∧Jd V.field V.aY.length t):Good V where
 field:=by rw [hf];exact bq.field
 jn:=by rw [Φ];exact bq.jn
 eo:=az
 sl:=by rw [hs,Φ];exact bq.sl
 aY:=by rw [Φ,hf];exact bq.aY
 a_:=by rw [hs];exact bq.a_
 uu:=by rw [hm,hf];exact bq.uu
 bm:=by rw [hm,hf];exact bq.bm
 ag:=λ i t aA=>(di t (List.mem_of_getElem? aA)).2.2
 ids:=λ i t aA=>by
  have γ:=di t (List.mem_of_getElem? aA);unfold ae.ik;split
  ·exact ⟨γ.1,γ.2.1,Int.le_refl _⟩
  ·rename_i aE
   have ao:=(List.getElem?_eq_some_iff.1 aA).1;obtain ⟨u,hu⟩:=gg (l:=V.ag) (i:=i - 1) (by omega);rw [Pf hu];have aa:=di u (List.mem_of_getElem? hu);have au:=(List.pairwise_iff_getElem.1 b3) (i - 1) i (by omega) ao (by omega);have aU:V.ag[i - 1]'(by omega)=u:=(List.getElem?_eq_some_iff.1 hu).2;have bc:V.ag[i]=t:=(List.getElem?_eq_some_iff.1 aA).2;rw [aU,bc] at au;exact ⟨au.1,γ.2.1,by omega⟩
 hM:=λ i t aA=>by
  rw [Bool.eq_false_iff];intro hc;rw [List.contains_iff_mem] at hc;unfold ae.hM at hc;obtain ⟨s,eg,fp⟩:=List.mem_map.1 hc;obtain ⟨j,ay⟩:=List.mem_iff_getElem?.1 eg;rw [List.getElem?_take] at ay;split at ay
  ·rename_i gw
   have ao:=(List.getElem?_eq_some_iff.1 aA).1;have au:=(List.pairwise_iff_getElem.1 b3) j i (by omega) ao gw;have aU:V.ag[j]'(by omega)=s:=(List.getElem?_eq_some_iff.1 ay).2;have bc:V.ag[i]=t:=(List.getElem?_eq_some_iff.1 aA).2;rw [aU,bc] at au;exact au.2 fp
  ·exact nomatch ay
 next:=by rw [hn];exact bq.next
 now:=bJ
end
section
open Go.RowKit
def adb (l:List aW) (x:Int):Option aW:=l.find? λ t=>t.id == x
def aER (l:List aW) (x:Int):Value:= .tuple #[.agg ((adb l x).getD default).cells.toArray, .bool (adb l x).isSome]
def HS (l:List Int):Bool:=(List.range (l.length - 1)).all λ i=> !decide (l.getD (i+1) 0<l.getD i 0)
theorem atf {l:List Int} (h:∀ i,i+1<l.length→¬ l.getD (i+1) 0<l.getD i 0):HS l=true:=by
 unfold HS;rw [List.all_eq_true];intro i ao;have:=h i (by have:=List.mem_range.1 ao;omega);simpa using this
def aEF {α:Type} (l:List α) (k:Nat):List α:=l.mapIdx λ i x=>if i<k∨l.length - k≤i then (l[l.length - 1 - i]?).getD x else x
end
section
open Go.RowKit
def xr (W:ae) (l:List cR):List aW:=(List.range W.ag.length).map (tW W.ag (eH W l))
structure FA (W:ae) (l:List cR):Prop where
 jg:Good W
 bs:fx W l= {W with ag:=(xr W l).filter λ t=>decide (0<t.cG)}
 bq:ql W l=((xr W l).filter λ t=> !decide (0<t.cG)).map aW.id
 al6:∀ k,0≤(eH W l).getD k 0
 az:(eH W l).length=W.ag.length
theorem ac8 {W:ae} {l:List cR} (h:kA W l=0):FA W l :=
 ⟨Good.zD (Jv h).1,(Sl h rfl).1,(Sl h rfl).2,λ k=>((PV h).2 k).1,(PV h).1⟩
theorem K_ (W:ae) (l:List cR):(xr W l).length=W.ag.length:=by simp [xr]
theorem K9 {W:ae} {l:List cR} {k:Nat} {t:aW} (h:W.ag[k]? =some t):(xr W l)[k]? =some {t with cG:=t.cG - (eH W l).getD k 0}:=by
 have av:=(List.getElem?_eq_some_iff.1 h).1;unfold xr;rw [List.getElem?_map,List.getElem?_range av,Option.map_some];unfold tW;rw [Pf h]
theorem anV {W:ae} {l:List cR} {x:aW} (h:x∈xr W l):∃ (k:Nat) (t:aW),W.ag[k]? =some t∧x= {t with cG:=t.cG - (eH W l).getD k 0}:=by
 obtain ⟨k,av⟩:=List.mem_iff_getElem?.1 h;have bl:=(List.getElem?_eq_some_iff.1 av).1;rw [K_] at bl;obtain ⟨t,aA⟩:=gg bl;rw [K9 aA] at av;injection av with av
 exact ⟨k,t,aA,av.symm⟩
theorem FA.Eh {W:ae} {l:List cR} (h:FA W l):(xr W l).Pairwise Aq:=by
 rw [List.pairwise_iff_getElem];intro i j ao ay ke;rw [K_] at ao ay;obtain ⟨s,hs⟩:=gg ao;obtain ⟨t,aA⟩:=gg ay;have aU:=(List.getElem?_eq_some_iff.1 (K9 (l:=l) hs)).2;have bc:=(List.getElem?_eq_some_iff.1 (K9 (l:=l) aA)).2;rw [aU,bc];have:=(List.pairwise_iff_getElem.1 h.jg.Eh) i j ao ay ke;rw [(List.getElem?_eq_some_iff.1 hs).2,(List.getElem?_eq_some_iff.1 aA).2] at this;exact this
theorem FA.right {W:ae} {l:List cR} (h:FA W l):Good (fx W l):=by
 rw [h.bs];refine Good.abF h.jg Z Z Z Z Z h.jg.now ?_ (h.Eh.filter _) λ t aA=> ?_
 ·exact Nat.le_trans (List.length_filter_le _ _) (by rw [K_];exact h.jg.eo)
 ·obtain ⟨aA,hp⟩:=List.mem_filter.1 aA;obtain ⟨k,s,hs,rfl⟩:=anV aA;have γ:=h.jg.each (List.mem_of_getElem? hs);have aa:=h.al6 k;have au:=of_decide_eq_true hp;refine ⟨γ.1,γ.2.1,⟨γ.2.2.kind,γ.2.2.owner,γ.2.2.ground, ?_,γ.2.2.load⟩⟩;have a1:=γ.2.2.cG;show 1≤s.cG - _∧s.cG - _≤ae.iG s.kind;have bO:0<s.cG - (eH W l).getD k 0:=au;omega
theorem ate {l:List Int} (h:l.Pairwise (· < ·)):HS l=true:=by
 refine atf λ i ao=> ?_;have:=(List.pairwise_iff_getElem.1 h) i (i+1) (by omega) ao (by omega);rw [List.getD_eq_getElem?_getD,List.getD_eq_getElem?_getD,List.getElem?_eq_getElem ao,List.getElem?_eq_getElem (by omega:i<l.length)];show ¬ l[i+1]<l[i];omega
end
section
open Go.RowKit
section
variable {f:aC} {a b c x y:ar} {d D:Int}
theorem arw (hf:f.bh=0) (ha:f.ground a=true) (tP:0≤cp f a b c) (Gp:0≤cp f a x c):j0 f (cp f a b) c=j0 f (cp f a x) c:=by
 have key:∀ t n,n∈dt c→0≤cp f a t c→((f.ground n && decide (0≤cp f a t n) && decide (cp f a t n+f.fv c=cp f a t c))=true↔∃ e,pS f a n e∧pS f a c (e+f.fv c)):=by
  intro t n hn aA;have hs:=O3 (b:=t) hf ha;have YS:=F1 hf ha aA;constructor
  ·intro h;simp only [Bool.and_eq_true,decide_eq_true_eq] at h;exact ⟨_,F1 hf ha h.1.2,by rw [h.2];exact YS⟩
  ·rintro ⟨e,γ,aa⟩;have he:=YS.uniq aa;have KZ:cp f a t n=e:=hs.known n e γ λ D r9=>by
    have:=(hs.mJ c aA).2 D r9;have au:=aC.OU t (aC.Sb hn);have av:=f.nU (c:=c);omega
   rw [KZ,kP.ground ha γ.1,decide_eq_true (kP.vK γ.1),decide_eq_true he.symm];rfl
 unfold j0;congr 1;apply find_congr;intro n hn;rw [Bool.eq_iff_iff,key b n hn tP,key x n hn Gp]
where
 find_congr {p q:ar→Bool}:∀ {l:List ar},(∀ n∈l,p n=q n)→l.find? p=l.find? q
  | [],_=>rfl
  | n::l,h=>by
   rw [List.find?_cons,List.find?_cons,h n List.mem_cons_self,find_congr λ m hm=>h m (List.mem_cons_of_mem _ hm)]
theorem avr (hf:f.bh=0) (ha:f.ground a=true) (Φ:0≤cp f a b b) (hx:0≤cp f a x x):∀ (n:Nat) (c:ar),0≤cp f a b c→0≤cp f a x c→(cp f a b c).toNat=n→eT f (cp f a b) a c=eT f (cp f a x) a c:=by
 have M5:=F2 hf ha Φ;have M6:=F2 hf ha hx;intro n;induction n using Nat.strongRecOn with
 | ind n bk =>
  intro c γ aa hn;by_cases e:c=a
  ·subst e;rw [x0 M5,x0 M6]
  ·have hp:=arw (b:=b) (x:=x) hf ha γ aa;obtain ⟨dY,eS,lD,vM⟩:=M5.prev γ e;obtain ⟨j1,nd,xJ,Ei⟩:=M6.prev aa e;have av:=f.nU (c:=c);rw [x1 M5 γ e,x1 M6 aa e,← hp];congr 1;exact bk _ (by omega) _ lD (by rw [hp];exact xJ) Z
theorem avs {ax:ar→Int} (h:mD f a ax):∀ (n:Nat) (c:ar),0≤ax c→(ax c).toNat=n→∀ i,(ao:i<(eT f ax a c).length)→(eT f ax a c).drop i=eT f ax a ((eT f ax a c)[i])∧kP f ((eT f ax a c)[i]) c (ax c - ax ((eT f ax a c)[i])):=by
 intro n;induction n using Nat.strongRecOn with
 | ind n bk =>
  intro c hc hn i ao;by_cases e:c=a
  ·subst e;rw [x0 h] at ao;have:i=0:=by simpa using ao
   subst this;simp only [x0 h,List.drop_zero,List.getElem_cons_zero];exact ⟨by first | trivial | rfl,by rw [Int.sub_self];exact .start rfl⟩
  ·have fM:=x1 h hc e;obtain ⟨dY,eS,lD,vM⟩:=h.prev hc e;have av:=f.nU (c:=c);cases i with
   | zero =>
    have e0:(eT f ax a c)[0]=c:=by simp only [fM,List.getElem_cons_zero]
    rw [e0,List.drop_zero,Int.sub_self];exact ⟨Z, .start Z⟩
   | succ i =>
    have Gz:i<(eT f ax a (j0 f ax c)).length:=by rw [fM] at ao;simpa using ao
    obtain ⟨dk,ea⟩:=bk _ (by omega) _ lD rfl i Gz;have aU:(eT f ax a c)[i+1]=(eT f ax a (j0 f ax c))[i]:=by simp only [fM,List.getElem_cons_succ]
    rw [aU];refine ⟨by rw [← dk,fM,List.drop_succ_cons], ?_⟩;have r:kP f _ c (ax (j0 f ax c) - ax ((eT f ax a (j0 f ax c))[i])+f.fv c):= .step ea (aC.HA.2 ⟨aC.Sb dY,h.gr c hc⟩);rw [show ax c - ax ((eT f ax a (j0 f ax c))[i])=ax (j0 f ax c) - ax ((eT f ax a (j0 f ax c))[i])+f.fv c by omega];exact r
theorem avv (he:fT f a b=0) {n:Nat} (hn:n<(eW f a b).length) {x:ar} (hx:(eW f a b).getD n default=x):fT f a x=0∧fT f x b=0∧eW f a x=(eW f a b).take (n+1)∧mM f a x+mM f x b=mM f a b:=by
 obtain ⟨hf,ha,Φ,aE,av,hp⟩:=OY he;have F:=F2 hf ha aE;have az:(eW f a b).length=(eT f (cp f a b) a b).length:=by rw [hp,List.length_reverse]
 have ao:(eT f (cp f a b) a b).length - 1 - n<(eT f (cp f a b) a b).length:=by omega
 obtain ⟨s1,s2⟩:=avs F _ b aE rfl _ ao;have ex:(eT f (cp f a b) a b)[(eT f (cp f a b) a b).length - 1 - n]=x:=by
  rw [nI hn] at hx;rw [← hx];simp only [hp,List.getElem_reverse]
 rw [ex] at s1 s2;have G2:x∈eT f (cp f a b) a b:=by rw [← ex];exact List.getElem_mem ao
 obtain ⟨eh,gT,iv⟩:=avq F _ b aE rfl x G2;have YT:=F1 hf ha eh;have aU:=XO hf ha YT;have hI:0≤cp f a x x:=by rw [aU];exact eh
 have xf:=OZ hf ha iv hI;have r2:=akQ hf iv s2;have ZC:=OZ hf iv Φ r2.1;refine ⟨xf,ZC, ?_, ?_⟩
 ·have K5:eW f a x=(eT f (cp f a x) a x).reverse:=by unfold eW;rw [if_pos xf]
  rw [K5,← avr hf ha aE hI _ x eh hI rfl,← s1,hp,List.reverse_drop,az.symm.trans az];congr 1;have:(eT f (cp f a b) a b).reverse.length=(eT f (cp f a b) a b).length:=List.length_reverse;omega
 ·have dk:mM f a x=cp f a x x:=by unfold mM;rw [if_pos xf]
  have ea:mM f x b=cp f x b b:=by unfold mM;rw [if_pos ZC]
  rw [dk,ea,av,aU];have au:=(F1 hf ha aE).2 _ (kP.iK YT.1 (F1 hf iv r2.1).1);omega
end
end
end Go.Proofs.YtlikikpgmmkjbaaGreat
