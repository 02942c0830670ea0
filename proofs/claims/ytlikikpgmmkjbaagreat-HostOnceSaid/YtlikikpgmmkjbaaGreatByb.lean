import Derived.Test.YtlikikpgmmkjbaaGreatGolG
set_option linter.unusedVariables false
set_option linter.unusedSimpArgs false
set_option maxRecDepth 100000
set_option maxHeartbeats 4000000
open Go.RowKit
namespace Go.Proofs.YtlikikpgmmkjbaaGreat
open Tryz
abbrev aUG:=@Nat.div_div_eq_div_mul
abbrev aWh:=@BitVec.getLsbD_ofNat
abbrev aWx:=@List.map_replicate
section
theorem aoD:eC prog bz.rep 80 90 40:=eC.kT (z:=bz.zero) (k:=3) underlying80 bz.info rfl rfl (by decide) bz.h8
theorem aoC:eC prog aF.rep 44 51 48:=eC.kT (z:=aF.zero) (k:=6) underlying44 aF.info rfl rfl (by decide) aF.h8
open Go.Proofs.YtlikikpgmmkjbaaGreat.fc
def eJ (T:List bz):List Nat:=kX (T.map bz.ks)
def aoA (T:List bz):Prop:=∀ (i j:Nat) (u v:bz),T[i]? =some u→T[j]? =some v→i≠j→∀ q∈κ.ae u.a,q∉κ.ae v.a
def eY (w:World) (aC:Nat) (T:List bz) (S:List b6):Prop:=iu w aC (T.map bz.ks) (S.map b6.waits)∧T.map (λ v=>(v.late,v.gone))=S.map (λ s=>(s.late,s.gone))∧aoA T
theorem MX {T:List bz} {q:Nat} (h:q∈eJ T):∃ (i:Nat) (v:bz),T[i]? =some v∧q∈κ.ae v.a:=by
 obtain ⟨i,v,τ,aa⟩:=alj h;rw [aRU] at τ;cases aw:T[i]? with
 | none=>rw [aw] at τ;cases τ
 | some u=>rw [aw] at τ;obtain rfl:=aRA τ;exact ⟨i,u,aw,aa⟩
theorem sw {T:List bz} {q i:Nat} {v:bz} (h:T[i]? =some v) (I:q∈κ.ae v.a):q∈eJ T:=Zi (i:=i) (v:=v.ks) (by rw [aRU,h];rfl) I
section
variable {w w':World} {aC sW:Nat} {T:List bz} {S:List b6} {k:Nat} {A:Option Addr} {c:Nat} {s:b6}
theorem eY.nil (w:World) (aC:Nat):eY w aC [] []:=⟨iu.nil _ _,rfl,λ i j u v h=>by simp at h⟩
theorem eY.later (h:eY w aC T S) (x:Ext w w'):eY w' aC T S:=⟨h.1.later x,h.2⟩
theorem eY.mod {B:List Nat} (h:eY w aC T S) (m:Mod B w w') (hd:∀ q∈eJ T,q∉B):eY w' aC T S:=⟨h.1.mod m hd,h.2⟩
theorem eY.down (h:eY w aC T S) (bs:sW≤aC):eY w sW T S:=⟨h.1.down bs,h.2⟩
theorem eY.lt (h:eY w aC T S):∀ q∈eJ T,aC≤q∧q<w.heap.size:=h.1.lt
theorem eY.ye (h:eY w aC T S):pJ w T S:=⟨h.1.Zg,h.2.1⟩
theorem akI {v:bz} {q:Nat} (h:q∈eJ (T++ [v])):q∈eJ T∨q∈κ.ae v.a:=by
 unfold eJ at h ⊢;rw [aR3] at h;exact M8 h
theorem eY.snoc (h:eY w aC T S) (o:aF.rep.aD 51 48 w aC (κ.ae A) A c s.waits) (hd:∀ q∈eJ T,q∉κ.ae A):eY w aC (T++ [⟨A,s.waits.length,c,s.late,s.gone⟩]) (S++ [s]):=by
 refine ⟨?_,by rw [aR3,aR3,h.2.1];rfl,λ i j u v aq ay jC q I xP=> ?_⟩
 ·rw [aR3,aR3];exact h.1.snoc o
 ·have az:=fun {i:Nat} {u:bz} (h:(T++ [(⟨A,s.waits.length,c,s.late,s.gone⟩:bz)])[i]? =some u)=>(aRC.1 h).1;have E':=az aq;have Lo:=az ay;rw [aRH,aSf] at E' Lo;rcases aSA i T.length with τ | τ<;>rcases aSA j T.length with aa | aa
  ·rw [aRX τ] at aq;rw [aRX aa] at ay;exact h.2.2 i j u v aq ay jC q I xP
  ·rw [aRX τ] at aq;rw [aR0 aa,show j - T.length=0 from by omega] at ay;obtain rfl:=aRA ay;exact hd q (sw aq I) xP
  ·rw [aR0 τ,show i - T.length=0 from by omega] at aq;rw [aRX aa] at ay;obtain rfl:=aRA aq;exact hd q (sw ay xP) I
  ·omega
theorem eY.get (h:eY w aC T S) (ar:k<T.length):∃ (A:Option Addr) (c:Nat) (s:b6),T[k]? =some ⟨A,s.waits.length,c,s.late,s.gone⟩∧S[k]? =some s∧aF.rep.aD 51 48 w aC (κ.ae A) A c s.waits:=by
 obtain ⟨A,c,s,τ,aa,aw⟩:=h.ye.at_ ar;obtain ⟨l,a1,bK,b_⟩:=h.1.2 k ⟨A,s.waits.length,c⟩ (by rw [aRU,τ];rfl);rw [aRU,aa] at a1;obtain rfl:=aRA a1;exact ⟨A,c,s,τ,aa,b_⟩
theorem eY.set (h:eY w aC T S) (ar:k<T.length) (o:aF.rep.aD 51 48 w aC (κ.ae A) A c s.waits) (hd:∀ (i:Nat) (u:bz),T[i]? =some u→i≠k→∀ q∈κ.ae u.a,q∉κ.ae A):eY w aC (T.set k ⟨A,s.waits.length,c,s.late,s.gone⟩) (S.set k s):=by
 have gS:k<S.length:=by rw [← h.ye.len];exact ar
 refine ⟨⟨by simp [h.ye.len],λ i v aq=> ?_⟩, ?_,λ i j u v aq ay jC q I xP=> ?_⟩
 ·rw [aSV] at aq;by_cases lZ:k=i
  ·subst lZ;rw [aRY (by simpa using ar)] at aq;obtain rfl:=aRA aq;exact ⟨s.waits,by rw [aSV,aRY (by simpa using gS)],rfl,o⟩
  ·rw [aR4 lZ] at aq;obtain ⟨l,τ,aa,aw⟩:=h.1.2 i v aq;exact ⟨l,by rw [aSV,aR4 lZ];exact τ,aa,aw⟩
 ·rw [aSV,aSV,h.2.1]
 ·by_cases lZ:k=i
  ·subst lZ;rw [aRY ar] at aq;obtain rfl:=aRA aq;rw [aR4 jC] at ay;exact hd j v ay (aUi jC) q xP I
  ·rw [aR4 lZ] at aq;by_cases fD:k=j
   ·subst fD;rw [aRY ar] at ay;obtain rfl:=aRA ay;exact hd i u aq jC q I xP
   ·rw [aR4 fD] at ay;exact h.2.2 i j u v aq ay jC q I xP
theorem eY.out (h:eY w aC T S) (ar:k<T.length):∃ (A:Option Addr) (c:Nat) (s:b6),T[k]? =some ⟨A,s.waits.length,c,s.late,s.gone⟩∧S[k]? =some s∧aF.rep.aD 51 48 w aC (κ.ae A) A c s.waits∧eY w aC (T.set k ⟨none,0,0,s.late,s.gone⟩) (S.set k ⟨[],s.late,s.gone⟩)∧(∀ q∈κ.ae A,q∈eJ T)∧∀ q∈eJ (T.set k ⟨none,0,0,s.late,s.gone⟩),q∈eJ T∧q∉κ.ae A:=by
 obtain ⟨A,c,s,τ,aa,aw⟩:=h.get ar;refine ⟨A,c,s,τ,aa,aw,h.set (s:=⟨[],s.late,s.gone⟩) ar (κ.aD.nil _) (λ i u _ _ q _ I=>by simp [κ.ae] at I),λ q I=>sw τ I,λ q I=> ?_⟩;obtain ⟨i,v,a1,bK⟩:=MX I;by_cases lZ:k=i
 ·subst lZ;rw [aRY ar] at a1;obtain rfl:=aRA a1;simp [κ.ae] at bK
 ·rw [aR4 lZ] at a1;exact ⟨sw a1 bK,h.2.2 i k v _ a1 τ (aUi lZ) q bK⟩
theorem eY.back {l:Int} {g:Bool} (h:eY w aC (T.set k ⟨none,0,0,l,g⟩) (S.set k ⟨[],l,g⟩)) (ar:k<T.length) (o:aF.rep.aD 51 48 w aC (κ.ae A) A c s.waits) (hd:∀ q∈eJ (T.set k ⟨none,0,0,l,g⟩),q∉κ.ae A):eY w aC (T.set k ⟨A,s.waits.length,c,s.late,s.gone⟩) (S.set k s):=by
 have τ:=h.set (k:=k) (s:=s) (by simpa using ar) o (λ i u aq _ q I=>hd q (sw aq I));rw [List.set_set,List.set_set] at τ;exact τ
theorem MY {v:bz} {q:Nat} (h:q∈eJ (T.set k v)):q∈eJ (T.set k ⟨none,0,0,v.late,v.gone⟩)∨q∈κ.ae v.a:=by
 obtain ⟨i,u,a1,bK⟩:=MX h;by_cases lZ:k=i
 ·subst lZ;rw [aRY (by have:=(aRC.1 a1).1;simpa using this)] at a1;obtain rfl:=aRA a1;exact .inr bK
 ·rw [aR4 lZ] at a1;exact .inl (sw (i:=i) (by rw [aR4 lZ];exact a1) bK)
end
def Y0 (S:List b6) (o:aF):Prop:=sV S∧o.bo=0∧∃ s,S[o.by_.toNat]? =some s∧s.gone=false∧s.waits.length≠50
def FY (S:List b6) (o:aF):List b6:=match S[o.by_.toNat]? with | some s=>S.set o.by_.toNat ⟨s.waits++ [o],s.late,s.gone⟩ | none=>S
def aiX (S:List b6) (p:Int):Prop:=sV S∧0≤p∧∃ s,S[p.toNat]? =some s∧s.gone=false
def abX (ok:Prop) (S:List b6) (e:Int) (oM:List b6):Prop:=(e=0∧ok∧oM=S)∨(e≠0∧¬ ok∧oM= [])
def zr (S:List b6) (p:Int):List b6:=S.set p.toNat ⟨[],0,true⟩
theorem RX {T:List bz} {k q:Nat} {l:Int} {g:Bool} (h:q∈eJ (T.set k ⟨none,0,0,l,g⟩)):q∈eJ T:=by
 obtain ⟨i,u,a1,bK⟩:=MX h;by_cases lZ:k=i
 ·subst lZ;rw [aRY (by have:=(aRC.1 a1).1;simpa using this)] at a1;obtain rfl:=aRA a1;simp [κ.ae] at bK
 ·rw [aR4 lZ] at a1;exact sw a1 bK
theorem akH {n q:Nat} (h:q∈eJ (List.replicate n default)):False:=by
 obtain ⟨i,u,a1,bK⟩:=MX h;rw [aSH] at a1;split at a1
 ·obtain rfl:=aRA a1;simp [κ.ae,default] at bK
 ·cases a1
theorem eY.aCr (w:World) (aC n:Nat):eY w aC (List.replicate n default) (List.replicate n ⟨[],0,false⟩):=by
 refine ⟨⟨by simp,λ i v h=> ?_⟩,by simp [default],λ i j u v τ _ _ q I=>(akH (sw τ I)).elim⟩;rw [aWx] at h;have aq:i<n:=by have:=(aRC.1 h).1;simpa using this
 rw [aSH,aRP aq] at h;obtain rfl:=aRA h;exact ⟨[],by rw [aWx,aSH,aRP aq],rfl,κ.aD.nil _⟩
theorem acP {o:aF} (h:o.bo=0):0≤o.by_∧o.by_≤7:=by
 cases hr:o.Dn with
 | true=>rw [aF.Uz hr] at h;cases h
 | false =>
  unfold aF.Dn at hr;simp only [aSn,aS7] at hr;have:=hr.1.1.1.1.1;unfold cO at this;simp at this;exact this
theorem akF {S:List b6} {o:aF} {s:b6} (h:S[o.by_.toNat]? =some s):FY S o=S.set o.by_.toNat ⟨s.waits++ [o],s.late,s.gone⟩:=by unfold FY;rw [h]
theorem Y8 (A:Option Addr) (c:Nat) (T:List bz) (S:List b6) (w:World) (b8:bz.rep.aJ 40 w A c T) (hS:pJ w T S):
  Calls prog 105 #[.slice A T.length c] w (λ e w'=>∃ (bG:Option Addr) (b4:Nat) (j3:List bz),e= .returned (.slice bG j3.length b4)∧bz.rep.aD 90 40 w' w.heap.size (κ.ae bG) bG b4 j3∧eY w' w.heap.size j3 S∧(∀ q∈κ.ae bG,q∉eJ j3)∧Ext w w'):=by
 have A_:=b8.ez;have QA:=b8.2.2.1;refine ch (n:=25) func105 Z Z Z ?_;refine aj<|va Z<|ai<|aj<|vm Z<|J (cA underlying80 Z)<|Re (R:=bz.rep) (by_:=40) (B:=w.heap.size) (c:=T.length) (zv:=bz.zero) κ.oU underlying80 bz.info Z (by decide) bz.h8 Z Z Z (by omega) (by omega) (by omega) λ cv bJ a7 ee J7=> ?_;have:=a7.size;have bg:=γ (Ext.bF w) a7;have alI:=λ q I=>(J7.lt q I).2;refine va Z<|ai<|aA<|aj<|vm Z<|J (cA underlying80 Z)<|vm Z<|ai<|bM<| ?_;refine e8 (λ cm cl aU=>∃ k:Nat,∃ gx:List bz,∃ cW:Option Addr,∃ hM:Nat,cl= [(2, .slice none 0 0),(3, .slice cW gx.length hM),(9, .slice A T.length c),(10, .int .i64 (T.length:Int)),(11, .int .i64 (k:Int))]∧cm=T.length - k∧Ext w aU∧bz.rep.aD 90 40 aU w.heap.size (κ.ae cW) cW hM gx∧eY aU cv.heap.size gx (S.take k)∧(k≤T.length)∧(gx.length=k)∧(cv.heap.size≤aU.heap.size)∧(∀ q∈eJ gx,q∈κ.ae cW→False)) _ _ ⟨0, [],some ⟨bJ,0,none⟩,T.length,Z,Z,bg,J7,(eY.nil _ _),by omega,rfl,aRN _,λ q τ aa=>by simp [eJ,kX] at τ⟩ (.cons Z (.cons Z (.cons Z (.cons Z (.cons (bZ Z (by first | omega | rfl | (simp<;>omega))) .nil))))) ?_;rintro X4 aGW vg ⟨k,gx,cW,hM,rfl,rfl,jY,c7,cL,ar,K4,Xt,xo⟩;have:=jY.size;have Dy:=λ q I=>(c7.lt q I).2;have Hw:∀ q∈κ.ae cW,w.heap.size≤q:=λ q I=>(c7.lt q I).1;have aeV:∀ q∈κ.ae cW,w.heap.size≤q:=Hw;have oy:∀ q∈eJ gx,q<vg.heap.size:=λ q I=>(cL.lt q I).2;have uQ:∀ q∈eJ gx,cv.heap.size≤q:=λ q I=>(cL.lt q I).1;refine aj<|J (blt Z Z)<|ai<|aA<| ?_;refine eg Z (λ avd=> ?_) (λ avd=> ?_)
 ·obtain ⟨en,dt,bh,fK,s7,hx⟩:=hS.at_ (k:=k) (by omega);refine bt<|aA<|bM<|aj<|J (b' k underlying80 jL Z Z ((b8.keep jY).bR (ba k)) Z (by omega))<|J (ao Z (κ.aJ.ho nw ((b8.keep jY).cu (ba k)) fK AQ jL))<|al Z KF Z Z λ h6 h9 b9 qZ aI=> ?_;have:=b9.size;have df:=γ jY b9;have o':=aI.lt;refine st (new:= [.slice en bh.waits.length dt, .int .i64 bh.late, .bool bh.gone]) Z Z aI Z jL Z Z Z λ na Dg aI=> ?_;have:=Dg.size;have e4:=Ext.mod df Dg bu;refine ai<|aj<|J (av qL Z)<|J (ao Z (aI.one n9 Z))<|ca Hl Z Z ((G_ _ _ bh.waits _ (hx.keep e4)).mono ?_);rintro e tM ⟨NZ,O',rfl,Aw,aKG,fb⟩;refine ⟨_,Z, ?_⟩;have:=fb.size;have hX:=γ e4 fb;have iz:=λ q I=>(Aw.lt q I).2;have nF:=λ q I=>(Aw.lt q I).1;refine J (av qL Z)<| ?_;have aI:=aI.later fb;refine st (new:= [.slice NZ ((bh.waits).length) O', .int .i64 bh.late, .bool bh.gone]) Z Z aI Z AP Z Z Z λ zV sk aI=> ?_;have:=sk.size;have my:=Ext.mod hX sk bu;refine ai<|rg<|vm Z<|J (ao Z (aI.all AQ jL))<|cX (e:= 90) (cs:= [.slice NZ ((bh.waits).length) O', .int .i64 bh.late, .bool bh.gone]) Z (λ _=>by kernel_rfl) Z λ I8 Kh gW aiS vA=> ?_;have:=gW.size;have sG:=γ my gW;have YF:=vA.lt;have c7:=c7.later b9;have c7:=c7.mod Dg (bL Dy);have c7:=c7.later fb;have c7:=c7.mod sk (bL Dy);have c7:=c7.later gW;refine ap aoD κ.di c7 (aR.gB (R:=bz.rep) (by_:=40) (q:=(⟨NZ,(bh.waits).length,O',bh.late,bh.gone⟩:bz)) vA ⟨Z,(show fO bh.late from bz.mj b8 _ (aSc fK))⟩ (by decide)) Z Z (by simp only [aRG,aRM];omega) (by simp only [aRG,aRM];omega) (by omega) Z λ yl am3 acI hz abL ae1 aNK=> ?_;have:=hz.size;have jX:=Ext.mod sG hz (λ q I=>aR5 (by omega) (c7.lt q I).1);have DC:=λ q I=>(abL.lt q I).2;have:=hz.size;refine va Z<|nl<|b0<|aV<|rg<|J (bad Z Z (bE (by omega)))<|vm Z<|nl<| ?_;have cL:=cL.later b9;have cL:=cL.mod Dg (bL oy);have cL:=cL.later fb;have cL:=cL.mod sk (bL oy);have cL:=cL.later gW;have cL:=cL.mod hz (λ q I h=>by exfalso;(exact xo q I h));have Aw:=Aw.mod sk (bA nF);have Aw:=Aw.later gW;have Aw:=Aw.mod hz (λ q I h=>by exfalso;(have:=nF q I;(have:=Dy q h;omega)));exact c6 _ _ ⟨k+1,gx++ [(⟨NZ,(bh.waits).length,O',bh.late,bh.gone⟩:bz)],am3,acI,Z,Z,jX,abL,(by rw [BC s7];exact cL.snoc (Aw.down (by omega)) (λ q τ aa=>by exfalso;(have:=nF q aa;(have:=oy q τ;omega)))),by omega,by rw [aRH,K4];rfl,by omega,λ q τ aa=>(akI τ).elim (λ τ=>by exfalso;(exact aRO (ae1 q aa) (λ ain=>by (exact xo q τ ain)) (λ ain=>by (have:=oy q τ;omega)))) (λ τ=>by exfalso;(exact aRO (ae1 q aa) (λ aio=>by (have:=nF q τ;(have:=Dy q aio;omega))) (λ aio=>by (have:=iz q τ;omega))))⟩ (by omega) (.cons Z (.cons Z (.cons Z (.cons Z (.cons (bZ Z (by first | omega | rfl | (simp<;>omega))) .nil)))))
 ·have k8:k=S.length:=by rw [← hS.len];omega
  refine dH<|dG<|ef<|dF<|aV<|aj<|vm Z<|va Z<|ai<|rt<|bb (.tmp Z .nil)<| ?_;subst k8;rw [aSi] at cL;exact ⟨cW,hM,gx,Z,c7,cL.down (by omega),λ q τ aa=>xo q aa τ,jY⟩
theorem aDk (A:Option Addr) (c:Nat) (T:List bz) (S:List b6) (o:aF) (w:World) (b8:bz.rep.aJ 40 w A c T) (hS:pJ w T S) (bS:o.ok):
  Calls prog 66 #[.slice A T.length c, .agg #[.int .i64 o.by_, .int .i64 o.kind, .int .i64 o.aQ, .int .i64 o.spot.x, .int .i64 o.spot.y, .int .i64 o.what]] w (λ e w'=>∃ (e':Int) (bG:Option Addr) (b4:Nat) (j3:List bz) (oM:List b6),e= .returned (.tuple #[.slice bG j3.length b4, .int .i64 e'])∧abX (Y0 S o) (FY S o) e' oM∧bz.rep.aD 90 40 w' w.heap.size (κ.ae bG) bG b4 j3∧eY w' w.heap.size j3 oM∧(∀ q∈κ.ae bG,q∉eJ j3)∧Ext w w'):=by
 have A_:=b8.ez;have QA:=b8.2.2.1;refine ch (n:=58) func66 Z Z Z ?_;refine aj<|cB Z Z Z Z λ cv bJ a7 ee ab=> ?_;have:=a7.size;have bg:=γ (Ext.bF w) a7;have ei:=ab.lt;refine va Z<|va Z<|ai<|aj<|vm Z<|ca PG Z Z ((RV _ _ T S _ (b8.keep bg) (hS.keep bg)).mono ?_);rintro e vg ⟨JG,rfl,afQ,bl⟩;refine ⟨_,Z, ?_⟩;have:=bl.size;have jY:=γ bg bl;refine va Z<|ai<|aA<|aj<|vm Z<|J (beq Z Z)<|ai<| ?_;refine i' Z (λ qQ=> ?_) (λ qQ=> ?_)
 ·have EW:=afQ.1 (by simpa using qQ);refine rg<| ?_;have ab:=ab.later bl;refine J (ao Z (ab.all hN dN))<|ca US Z Z ((Ym o _).mono ?_);rintro e zU ⟨rfl,kY⟩;refine ⟨_,Z, ?_⟩;have:=kY.size;have iU:=γ jY kY;refine va Z<|ai<|aA<|bM<|aj<|vm Z<|J (bne Z Z)<|va Z<|ai<| ?_;refine e1 Z (λ pU=> ?_) (λ pU=> ?_)
  ·refine e9<|b0<|aV<|aA<|aj<|vm Z<|J (bne Z Z)<|ai<| ?_;refine e1 Z (λ avh=> ?_) (λ avh=> ?_)
   ·refine aj<|vm Z<|va Z<|va Z<|ai<|rt<|bT<|bb (.tmp Z (.tmp Z .nil))<| ?_;exact ⟨o.bo,none,0, [], [],Z, .inr ⟨(by omega),(λ bd=>absurd bd.2.1 (by simpa using pU)),Z⟩,κ.aD.nil _,eY.nil _ _,λ q I=>by simp [κ.ae] at I,iU⟩
   ·exfalso;omega
  ·have oY:o.bo=0:=by simpa using pU
   have cF:=acP oY;refine aj<|J (av s3 Z)<| ?_;have ab:=ab.later kY;refine J (ao Z (ab.one bc Z))<|vm Z<|J (cA underlying80 Z)<|J (j4 Z Z)<|va Z<|ai<| ?_;refine G8 Z (λ lW=> ?_) (λ lW=> ?_)
   ·refine rg<|va Z<|nl<|b0<|aV<|aA<|aj<|vm Z<|J (bne Z Z)<|ai<|fA Z<|aj<|vm Z<|va Z<|va Z<|ai<|rt<|bT<|bb (.tmp Z (.tmp Z .nil))<| ?_;exact ⟨7,none,0, [], [],Z, .inr ⟨(by decide),(by rintro ⟨_,_,s,hs,_⟩;have:=(aRC.1 hs).1;have:=hS.len;omega),Z⟩,κ.aD.nil _,eY.nil _ _,λ q I=>by simp [κ.ae] at I,iU⟩
   ·have bw:o.by_.toNat<T.length:=by omega
    obtain ⟨en,dt,bh,fK,jy,hx⟩:=hS.at_ bw;refine aj<|vm Z<|J (av s3 Z)<|J (ao Z (ab.one bc Z))<|J (b' o.by_.toNat underlying80 jL Z Z ((b8.keep iU).bR (ba o.by_.toNat)) (by omega) (by omega))<|J (av Hk Z)<|J (v:= .bool bh.gone) (ao Z (κ.aJ.j7 nw ((b8.keep iU).cu (ba o.by_.toNat)) 2 fK Z EL))<|va Z<|ai<| ?_;refine dJ Z (λ n_=> ?_) (λ n_=> ?_)
    ·refine rg<|va Z<|nl<|b0<|aV<|aA<|aj<|vm Z<|J (bne Z Z)<|ai<|fA Z<|aj<|vm Z<|va Z<|va Z<|ai<|rt<|bT<|bb (.tmp Z (.tmp Z .nil))<| ?_;exact ⟨9,none,0, [], [],Z, .inr ⟨(by decide),(by rintro ⟨_,_,s,hs,aK,_⟩;rw [jy] at hs;obtain rfl:=aRA hs;rw [n_] at aK;cases aK),Z⟩,κ.aD.nil _,eY.nil _ _,λ q I=>by simp [κ.ae] at I,iU⟩
    ·refine aj<|vm Z<|J (av s3 Z)<|J (ao Z (ab.one bc Z))<|J (b' o.by_.toNat underlying80 jL Z Z ((b8.keep iU).bR (ba o.by_.toNat)) (by omega) (by omega))<|J (av qL Z)<|J (v:= .slice en bh.waits.length dt) (ao Z (κ.aJ.j7 nw ((b8.keep iU).cu (ba o.by_.toNat)) 0 fK Z n9))<|J (cA underlying44 Z)<|J (beq Z Z)<|va Z<|ai<| ?_;refine i' Z (λ A3=> ?_) (λ A3=> ?_)
     ·refine rg<|va Z<|nl<|b0<|aV<|aA<|aj<|vm Z<|J (bne Z Z)<|ai<|fA Z<|aj<|vm Z<|va Z<|va Z<|ai<|rt<|bT<|bb (.tmp Z (.tmp Z .nil))<| ?_;exact ⟨6,none,0, [], [],Z, .inr ⟨(by decide),(by rintro ⟨_,_,s,hs,_,az⟩;rw [jy] at hs;obtain rfl:=aRA hs;omega),Z⟩,κ.aD.nil _,eY.nil _ _,λ q I=>by simp [κ.ae] at I,iU⟩
     ·have ag6:bh.waits.length≤50:=(EW.2.2 _ bh jy).1;have axM:bh.waits.length≠50:=by omega
      refine e9<|b0<|aV<|aA<|aj<|vm Z<|J (bne Z Z)<|ai<| ?_;refine e1 Z (λ v7=> ?_) (λ v7=> ?_)
      ·exfalso;omega
      ·refine bt<|aj<|vm Z<|ca U2 Z Z ((Y8 _ _ T S _ (b8.keep iU) (hS.keep iU)).mono ?_);rintro e tL ⟨Z6,aIL,TV,rfl,w_,Oq,afY,cx⟩;refine ⟨_,Z, ?_⟩;have:=cx.size;have jI:=γ iU cx;have F4:=λ q I=>(w_.lt q I).2;have Mq:=λ q I=>(w_.lt q I).1;have aPD:=λ q I=>(Oq.lt q I).2;have aLL:=λ q I=>(Oq.lt q I).1;refine va Z<|ai<|aA<| ?_;have au2:TV.length=T.length:=by have:=Oq.ye.len;have:=hS.len;omega
       obtain ⟨D2,uB,aDy,afz,afy,GR,pC,LS,ag8⟩:=Oq.out (k:=o.by_.toNat) (by omega);obtain rfl:bh=aDy:=by rw [jy] at afy;exact aRA afy
       have aPJ:=λ q I=>(GR.lt q I).2;have ayK:=λ q I=>(GR.lt q I).1;have Pu:∀ q∈κ.ae D2,q∈κ.ae Z6→False:=λ q τ aa=>afY q aa (LS q τ);have aly:=λ q I=>(pC.lt q I).2;have ayJ:=λ q I=>(pC.lt q I).1;have Pt:∀ q∈eJ (TV.set (o.by_.toNat) ⟨none,0,0,bh.late,bh.gone⟩),q∈κ.ae Z6→False:=λ q τ aa=>afY q aa (ag8 q τ).1;have adK:∀ q∈eJ (TV.set (o.by_.toNat) ⟨none,0,0,bh.late,bh.gone⟩),q∈κ.ae D2→False:=λ q τ aa=>(ag8 q τ).2 aa;refine RN (κ.ae D2) [(2,0),(5,0),(8,0),(9,0),(10,2),(11,2),(14,3)] [0,1,2,3,4,5,6,7,8,9,10,11,12,13,14] (by kernel_rfl) (by kernel_rfl) ?_;refine jx Z Z (λ _=>aM Z) Z<|jx Z Z (λ _=>av s3 Z) Z<| ?_;have ab:=ab.later cx;have UH:∀ q∈κ.ae D2,q=bJ→False:=λ q I Φ=>by (have:=ayK q I;omega)
       refine ze Z Z (λ _ x=>ao Z ((ab.mod x (λ I=>UH _ I Z)).one bc Z)) Z<|jx Z Z (λ _=>aM Z) Z<|jx Z Z (λ _=>av s3 Z) Z<|ze Z Z (λ _ x=>ao Z ((ab.mod x (λ I=>UH _ I Z)).one bc Z)) Z<|jx Z Z (λ _=>b' o.by_.toNat underlying80 jL Z Z (w_.has.bR (ba o.by_.toNat)) (by omega) (by omega)) Z<|jx Z Z (λ _=>av qL Z) Z<|ze (v:= .slice D2 bh.waits.length uB) Z Z (λ _ x=>ao Z (κ.aJ.j7 nw ((w_.mod x (λ q I h=>by exfalso;(exact Pu q h I))).has.cu (ba o.by_.toNat)) 0 afz Z n9)) Z<|ze Z Z (λ _ x=>ao Z ((ab.mod x (λ I=>UH _ I Z)).all hN dN)) Z<|ES Z Z Z λ tM fb Q hK=>cX (e:= 51) (cs:= [.int .i64 o.by_, .int .i64 o.kind, .int .i64 o.aQ, .int .i64 o.spot.x, .int .i64 o.spot.y, .int .i64 o.what]) Z (λ _=>by kernel_rfl) Z λ tN apb hT ayS JA=>hK _ _ ⟨Mod.bC (γ fb hT), ?_⟩;have:=fb.size;have hX:=γ jI fb;have:=hT.size;have iG:=γ hX hT;have YE:=JA.lt;have GR:=GR.later (γ fb hT);refine ES Z Z Z λ wN eS Q hK=>ap aoC κ.di (GR.later eS) ((aR.gB (R:=aF.rep) (by_:=48) (q:=o) JA ⟨Z,bS⟩ (by decide)).keep eS) Z Z (by first | (simp<;>omega) | omega) (by first | (simp<;>omega) | omega) (by have:=eS.size;omega) Z λ Nj am2 ap4 l2 Cl VH aNI=>hK _ _ ⟨(Mod.bC eS).trans l2, ?_⟩;have:=eS.size;have mb:=γ iG eS;have:=l2.size;have yw:=Ext.mod mb l2 (λ q I=>aR5 (by omega) ((GR.later eS).lt q I).1);have aQf:=λ q I=>(Cl.lt q I).2;have:=l2.size;have w_:=w_.later (γ fb (γ hT eS));have w_:=w_.mod l2 (λ q I h=>by exfalso;(exact Pu q h I));refine jx Z Z (λ _=>b' o.by_.toNat underlying80 jL Z Z (w_.has.bR (ba o.by_.toNat)) (by omega) (by omega)) Z<|jx Z Z (λ _=>av qL Z) Z<|Vn Z Z Z λ F' ky Q hK=>so (q':=(⟨am2,(bh.waits++ [o]).length,ap4,(⟨D2,bh.waits.length,uB,bh.late,bh.gone⟩:bz).late,(⟨D2,bh.waits.length,uB,bh.late,bh.gone⟩:bz).gone⟩:bz)) (j:=0) (i:=o.by_.toNat) (w_.later ky) κ.di afz Z Z Z Z (λ _ cs h=>by have qd:=(show _∧_ from h).2;obtain rfl:=nw h;exact ⟨rfl,qd⟩) Z Z AP λ ama Rj TP=>hK _ _ ?_;have:=ky.size;have oD:=γ yw ky;have:=Rj.size;have NQ:=Ext.mod oD Rj (λ q I=>aR5 (by omega) ((w_.later ky).lt q I).1);refine PZ λ Nr h7=> ?_;have:=h7.size;have yA:=γ NQ h7;refine aV<|aj<|vm Z<|va Z<|va Z<|ai<|rt<|bb (.tmp Z (.tmp Z .nil))<| ?_;have TP:=TP.later h7;have pC:=pC.later (γ fb (γ hT eS));have pC:=pC.mod l2 (λ q I h=>by exfalso;(exact adK q I h));have pC:=pC.later ky;have pC:=pC.mod Rj (λ q I h=>by exfalso;(exact Pt q I h));have pC:=pC.later h7;have Cl:=Cl.later ky;have Cl:=Cl.mod Rj (λ q I h=>by exfalso;(exact aRO (VH q I) (λ aiq=>by (exact Pu q aiq h)) (λ aiq=>by (have:=F4 q h;omega))));have Cl:=Cl.later h7;have aX:=eY.back (s:=⟨bh.waits++ [o],bh.late,bh.gone⟩) pC (by omega) Cl (λ q τ aa=>by exfalso;(exact aRO (VH q aa) (λ air=>by (exact adK q τ air)) (λ air=>by (have:=aly q τ;omega))));exact ⟨0,_,_,_,FY S o,by rw [aRK];rfl, .inl ⟨rfl,⟨EW,oY,bh,jy,by simpa using n_,axM⟩,rfl⟩,TP.down (by omega),by rw [akF jy];exact aX.down (by omega),λ q τ aa=>(MY aa).elim (λ aa=>by exfalso;(exact Pt q aa τ)) (λ aa=>by exfalso;(exact aRO (VH q aa) (λ Mf=>by (exact Pu q Mf τ)) (λ Mf=>by (have:=F4 q τ;omega)))),yA⟩
 ·refine bt<|aA<|bM<|aj<|vm Z<|J (bne Z Z)<|va Z<|ai<| ?_;refine e1 Z (λ avq=> ?_) (λ avq=> ?_)
  ·refine e9<|b0<|aV<|aA<|aj<|vm Z<|J (bne Z Z)<|ai<| ?_;refine e1 Z (λ avr=> ?_) (λ avr=> ?_)
   ·refine aj<|vm Z<|va Z<|va Z<|ai<|rt<|bT<|bb (.tmp Z (.tmp Z .nil))<| ?_;exact ⟨JG,none,0, [], [],Z, .inr ⟨(by simpa using qQ),(λ bd=>(show ¬ JG=0 by simpa using qQ) (afQ.2 bd.1)),Z⟩,κ.aD.nil _,eY.nil _ _,λ q I=>by simp [κ.ae] at I,jY⟩
   ·exfalso;omega
  ·exfalso;omega
theorem aC5 (A:Option Addr) (c:Nat) (T:List bz) (S:List b6) (p:Int) (w:World) (b8:bz.rep.aJ 40 w A c T) (hS:pJ w T S):
  Calls prog 108 #[.slice A T.length c, .int .i64 p] w (λ e w'=>∃ (e':Int) (bG:Option Addr) (b4:Nat) (j3:List bz) (oM:List b6),e= .returned (.tuple #[.slice bG j3.length b4, .int .i64 e'])∧abX (aiX S p) (zr S p) e' oM∧bz.rep.aD 90 40 w' w.heap.size (κ.ae bG) bG b4 j3∧eY w' w.heap.size j3 oM∧(∀ q∈κ.ae bG,q∉eJ j3)∧Ext w w'):=by
 have A_:=b8.ez;have QA:=b8.2.2.1;refine ch (n:=37) func108 Z Z Z ?_;refine aj<|va Z<|va Z<|ai<|aj<|vm Z<|ca PG Z Z ((RV _ _ T S _ (b8.keep (Ext.bF w)) (hS.keep (Ext.bF w))).mono ?_);rintro e lg ⟨D5,rfl,td,a7⟩;refine ⟨_,Z, ?_⟩;have:=a7.size;have eB:=γ (Ext.bF w) a7;refine va Z<|ai<|aA<|bM<|aj<|vm Z<|J (bne Z Z)<|va Z<|ai<| ?_;refine e1 Z (λ lX=> ?_) (λ lX=> ?_)
 ·refine e9<|b0<|aV<|aA<|aj<|vm Z<|J (bne Z Z)<|ai<| ?_;refine e1 Z (λ pV=> ?_) (λ pV=> ?_)
  ·refine aj<|vm Z<|va Z<|va Z<|ai<|rt<|bT<|bb (.tmp Z (.tmp Z .nil))<| ?_;exact ⟨D5,none,0, [], [],Z, .inr ⟨(by simpa using lX),(λ bd=>(show ¬ D5=0 by simpa using lX) (td.2 bd.1)),Z⟩,κ.aD.nil _,eY.nil _ _,λ q I=>by simp [κ.ae] at I,eB⟩
  ·exfalso;omega
 ·have EW:=td.1 (by simpa using lX);refine aj<|vm Z<|J (blt Z Z)<|vm Z<|bp Z Z Z Z (λ hc=>aM Z) Z<|bp Z Z Z Z (λ hc=>aM Z) Z<|bp Z Z Z Z (λ hc=>cA underlying80 (gt hc Z)) Z<|bp Z Z Z Z (λ hc=>j4 (gt hc Z) (gt hc Z)) Z<|J (fv Z Z Z Z)<|va Z<|ai<| ?_;refine dJ Z (λ Wn=> ?_) (λ Wn=> ?_)
  ·simp only [cC] at Wn;refine rg<|va Z<|nl<|b0<|aV<|aA<|aj<|vm Z<|J (bne Z Z)<|ai<|fA Z<|aj<|vm Z<|va Z<|va Z<|ai<|rt<|bT<|bb (.tmp Z (.tmp Z .nil))<| ?_;exact ⟨7,none,0, [], [],Z, .inr ⟨(by decide),(by rintro ⟨_,aH,s,hs,_⟩;have:=(aRC.1 hs).1;have:=hS.len;omega),Z⟩,κ.aD.nil _,eY.nil _ _,λ q I=>by simp [κ.ae] at I,eB⟩
  ·simp only [cC] at Wn;have bw:p.toNat<T.length:=by omega
   have axd:0≤p:=by omega
   obtain ⟨en,dt,bh,fK,jy,hx⟩:=hS.at_ bw;refine aj<|vm Z<|vm Z<|J (b' p.toNat underlying80 jL Z Z ((b8.keep eB).bR (ba p.toNat)) (by omega) (by omega))<|J (av Hk Z)<|J (v:= .bool bh.gone) (ao Z (κ.aJ.j7 nw ((b8.keep eB).cu (ba p.toNat)) 2 fK Z EL))<|va Z<|ai<| ?_;refine dJ Z (λ qT=> ?_) (λ qT=> ?_)
   ·refine rg<|va Z<|nl<|b0<|aV<|aA<|aj<|vm Z<|J (bne Z Z)<|ai<|fA Z<|aj<|vm Z<|va Z<|va Z<|ai<|rt<|bT<|bb (.tmp Z (.tmp Z .nil))<| ?_;exact ⟨8,none,0, [], [],Z, .inr ⟨(by decide),(by rintro ⟨_,_,s,hs,aK⟩;rw [jy] at hs;obtain rfl:=aRA hs;rw [qT] at aK;cases aK),Z⟩,κ.aD.nil _,eY.nil _ _,λ q I=>by simp [κ.ae] at I,eB⟩
   ·refine e9<|b0<|aV<|aA<|aj<|vm Z<|J (bne Z Z)<|ai<| ?_;refine e1 Z (λ lY=> ?_) (λ lY=> ?_)
    ·exfalso;omega
    ·refine bt<|aj<|vm Z<|ca U2 Z Z ((Y8 _ _ T S _ (b8.keep eB) (hS.keep eB)).mono ?_);rintro e zU ⟨aGx,aIF,aoJ,rfl,J0,GM,afX,kY⟩;refine ⟨_,Z, ?_⟩;have:=kY.size;have iU:=γ eB kY;have aDW:=λ q I=>(J0.lt q I).2;have azk:=λ q I=>(J0.lt q I).1;have aPC:=λ q I=>(GM.lt q I).2;have aLK:=λ q I=>(GM.lt q I).1;refine va Z<|ai<|aA<| ?_;have au2:aoJ.length=T.length:=by have:=GM.ye.len;have:=hS.len;omega
     refine rg<|vm Z<|vm Z<|J (v:= .agg #[.slice none 0 0, .int .i64 0, .bool true]) (cK Z (by kernel_rfl))<|J (b' p.toNat underlying80 jL Z Z (J0.has.bR (ba p.toNat)) (by omega) (by omega))<|IQ (q':=(⟨none,0,0,0,true⟩:bz)) (i:=p.toNat) (es:= [.slice none 0 0, .int .i64 0, .bool true]) J0 κ.di (by omega) Z Z Z Z (λ _=>⟨Z,bI.2 (by (try dsimp only);omega)⟩) jL λ u' p7 J5=> ?_;have:=p7.size;have jW:=Ext.mod iU p7 (λ q I=>aR5 (by omega) (J0.lt q I).1);refine ai<|aj<|vm Z<|va Z<|va Z<|ai<|rt<|bb (.tmp Z (.tmp Z .nil))<| ?_;have GM:=GM.mod p7 (λ q I h=>by exfalso;(exact afX q h I));have aX:=eY.set (A:=none) (c:=0) (s:=⟨[],0,true⟩) (k:=p.toNat) GM (by omega) (κ.aD.nil _) (λ i u _ _ q _ I=>by simp [κ.ae] at I);exact ⟨0,_,_,_,zr S p,by rw [aRK];rfl, .inl ⟨rfl,⟨EW,axd,bh,jy,by simpa using qT⟩,rfl⟩,J5.down (by omega),aX.down (by omega),λ q τ aa=>(MY aa).elim (λ aa=>afX q τ (RX aa)) (λ aa=>by simp [κ.ae] at aa),jW⟩
theorem aC9 (n:Nat) (τ:1≤n) (gh:n≤8) (w:World):
  Calls prog 70 #[.int .i64 (n:Int)] w (λ e w'=>∃ (bG:Option Addr) (b4:Nat),e= .returned (.tuple #[.slice bG (List.replicate n (default:bz)).length b4, .int .i64 0])∧bz.rep.aD 90 40 w' w.heap.size (κ.ae bG) bG b4 (List.replicate n default)∧eY w' w.heap.size (List.replicate n default) (List.replicate n ⟨[],0,false⟩)∧(∀ q∈κ.ae bG,q∉eJ (List.replicate n (default:bz)))∧Ext w w'):=by
 refine ch (n:=12) func70 Z Z Z ?_;refine aj<|va Z<|va Z<|ai<|aA<|aj<|vm Z<|J (blt Z Z)<|vm Z<|bp Z Z Z Z (λ hc=>aM Z) Z<|bp Z Z Z Z (λ hc=>iw (gt hc Z) Z) Z<|J (fv Z Z Z Z)<|ai<| ?_;refine dJ Z (λ mo=> ?_) (λ mo=> ?_)
 ·simp only [cC] at mo;exfalso;omega
 ·simp only [cC] at mo;refine bt<|aj<|vm Z<|azB (R:=bz.rep) (by_:=40) (B:=w.heap.size) (c:=n) (zv:=bz.zero) (q:=default) κ.oU underlying80 bz.info Z (by decide) bz.h8 (λ _=>⟨Z,bI.2 (by decide)⟩) Z Z Z (by omega) (by omega) (by omega) λ lg AD kx Ml abM=> ?_;have:=kx.size;have eB:=γ (Ext.bF w) kx;have aD8:=λ q I=>(abM.lt q I).2;refine va Z<|va Z<|ai<|rt<|bb (.tmp Z (.tmp Z .nil))<| ?_;exact ⟨some ⟨AD,0,none⟩,n,by rw [aSd];rfl,abM,eY.aCr _ _ _,λ q τ aa=>akH aa,eB⟩
end
section
theorem aoB:eC prog aF.rep 44 51 48:=eC.kT (z:=aF.zero) (k:=6) underlying44 aF.info rfl rfl (by decide) aF.h8
open Go.Proofs.YtlikikpgmmkjbaaGreat.fc
structure qH (w:World) (aC:Nat) (A:Option Addr) (c:Nat) (l:List aF):Prop where
 has:aF.rep.aJ 48 w A c l
 lt:∀ q∈κ.ae A,aC≤q∧q<w.heap.size
theorem aAx {A:Option Addr} {c:Nat} {l:List aF} {S:List Nat} {w w':World} (h:aF.rep.aJ 48 w A c l) (m:Mod S w w') (bw:∀ q∈κ.ae A,q<w.heap.size) (hd:∀ x∈κ.ae A,x∉S):aF.rep.aJ 48 w' A c l:=by
 obtain ⟨τ,aa,aw,a1,ess,bK,b_,ed⟩:=h;refine ⟨τ,aa,aw,a1,ess,bK,b_,λ aH=> ?_⟩
 ·obtain ⟨b,o,rfl,hc⟩:=ed aH;refine ⟨b,o,Z,λ j u hu=> ?_⟩;rw [← hc j u hu];have:=m.block b (bw b (aRz.2 rfl)) (hd b (aRz.2 rfl));simp only [World.cell?,this]
section
variable {w w':World} {aC sW:Nat} {A:Option Addr} {c:Nat} {l:List aF} {T:List bz} {S:List b6} {k i:Nat}
theorem qH.mod {B:List Nat} (h:qH w aC A c l) (m:Mod B w w') (hd:∀ x∈κ.ae A,x∉B):qH w' aC A c l :=
 ⟨aAx h.has m (λ q I=>(h.lt q I).2) hd,λ q I=>⟨(h.lt q I).1,aTk (h.lt q I).2 m.size⟩⟩
theorem qH.later (h:qH w aC A c l) (x:Ext w w'):qH w' aC A c l:=h.mod (B:= []) (Mod.bC x) λ _ _ h=>by simp at h
theorem qH.of (h:aF.rep.aD 51 48 w aC (κ.ae A) A c l):qH w aC A c l:=⟨h.has,λ q I=>h.lt q I⟩
theorem akE {lo s q:Nat} (h:q∈κ.ae (eF A c lo s)):q∈κ.ae A:=by
 unfold eF at h;split at h
 ·exact h
 ·cases A with
  | none=>exact h
  | some a =>
   have e:(a.add (lo * s)).block=a.block:=by unfold Addr.add;split<;>rfl
   have h:q∈ [(a.add (lo * s)).block]:=h;rw [e] at h;exact h
theorem qH.cut (h:qH w aC A c l) (aH:0<l.length):qH w aC (eF A c 1 6) (c - 1) (l.drop 1):=by
 have hc:=h.has.1;have hs:=h.has.sub 1 l.length (by omega) (by omega);rw [aR1 (by rw [aRV];exact aRN _)] at hs;exact ⟨hs,λ q I=>h.lt q (akE I)⟩
def hJ (w:World) (aC:Nat) (T:List bz) (S:List b6):Prop:=T.map (λ v=>(v.late,v.gone))=S.map (λ s=>(s.late,s.gone))∧∀ (i:Nat) (v:bz),T[i]? =some v→∃ s:b6,S[i]? =some s∧v.n=s.waits.length∧qH w aC v.a v.c s.waits
theorem hJ.len (h:hJ w aC T S):T.length=S.length:=by have:=aSI List.length h.1;simpa using this
theorem hJ.mod {B:List Nat} (h:hJ w aC T S) (m:Mod B w w') (hd:∀ q∈eJ T,q∉B):hJ w' aC T S:=⟨h.1,λ i v aq=>by
 obtain ⟨s,τ,aa,aw⟩:=h.2 i v aq;exact ⟨s,τ,aa,aw.mod m λ q I=>hd q (sw aq I)⟩⟩
theorem hJ.later (h:hJ w aC T S) (x:Ext w w'):hJ w' aC T S:=⟨h.1,λ i v aq=>by
 obtain ⟨s,τ,aa,aw⟩:=h.2 i v aq;exact ⟨s,τ,aa,aw.later x⟩⟩
theorem hJ.down (h:hJ w aC T S) (bs:sW≤aC):hJ w sW T S:=⟨h.1,λ i v aq=>by
 obtain ⟨s,τ,aa,aw⟩:=h.2 i v aq;exact ⟨s,τ,aa,aw.has,λ q I=>⟨aR5 bs (aw.lt q I).1,(aw.lt q I).2⟩⟩⟩
theorem hJ.lt (h:hJ w aC T S):∀ q∈eJ T,aC≤q∧q<w.heap.size:=λ q I=>by
 obtain ⟨i,v,aq,I⟩:=MX I;obtain ⟨s,τ,aa,aw⟩:=h.2 i v aq;exact aw.lt q I
theorem hJ.nil (w:World) (aC:Nat):hJ w aC [] []:=⟨rfl,λ i v h=>by simp at h⟩
theorem eY.IW (h:eY w aC T S):hJ w aC T S:=⟨h.2.1,λ i v aq=>by
 obtain ⟨A,c,s,τ,aa,aw⟩:=h.get (k:=i) (aRC.1 aq).1;rw [aq] at τ;obtain rfl:=aRA τ;exact ⟨s,aa,Z,qH.of aw⟩⟩
theorem hJ.ye (h:hJ w aC T S):pJ w T S:=by
 refine ⟨⟨by simp [h.len],λ i v aq=> ?_⟩,h.1⟩;rw [aRU] at aq;cases b8:T[i]? with
 | none=>rw [b8] at aq;cases aq
 | some u =>
  rw [b8] at aq;obtain rfl:=aRA aq;obtain ⟨s,τ,aa,aw⟩:=h.2 i u b8;exact ⟨s.waits,by rw [aRU,τ];rfl,aa,aw.has⟩
theorem hJ.get (h:hJ w aC T S) (ar:k<T.length):∃ (A:Option Addr) (c:Nat) (s:b6),T[k]? =some ⟨A,s.waits.length,c,s.late,s.gone⟩∧S[k]? =some s∧qH w aC A c s.waits:=by
 obtain ⟨A,c,s,τ,aa,aw⟩:=h.ye.at_ ar;obtain ⟨s',a1,bK,b_⟩:=h.2 k _ τ;rw [aa] at a1;obtain rfl:=aRA a1;exact ⟨A,c,s,τ,aa,b_⟩
theorem hJ.set (h:hJ w aC T S) {c:Nat} {s:b6} (ar:k<T.length) (o:qH w aC A c s.waits):hJ w aC (T.set k ⟨A,s.waits.length,c,s.late,s.gone⟩) (S.set k s):=by
 have gS:k<S.length:=by rw [← h.len];exact ar
 refine ⟨by rw [aSV,aSV,h.1],λ i v aq=> ?_⟩;by_cases lZ:k=i
 ·subst lZ;rw [aRY ar] at aq;obtain rfl:=aRA aq;exact ⟨s,aRY gS,Z,o⟩
 ·rw [aR4 lZ] at aq;obtain ⟨s',τ,aa,aw⟩:=h.2 i v aq;exact ⟨s',by rw [aR4 lZ];exact τ,aa,aw⟩
end
def q0 (s:b6):b6:=if 0<s.waits.length then ⟨s.waits,0,s.gone⟩ else if s.gone=false then ⟨s.waits,min (s.late+1) 1000000,s.gone⟩ else s
def Bg (S:List b6) (k:Nat):List b6:=(S.take k).map q0++S.drop k
theorem ay1 (S:List b6):Bg S S.length=S.map q0:=by unfold Bg;rw [aSi,List.drop_length,aR7]
theorem Q8 {S:List b6} {k:Nat}:(Bg S k)[k]? =S[k]? :=by
 unfold Bg;rcases aSA k S.length with h | h
 ·rw [aR0 (by rw [aSz,aRE];omega),aSz,aRE,aTq (by omega),aSJ];simp
 ·rw [aSR (by simp;omega),aSR h]
theorem XP {S:List b6} {k:Nat} {s:b6} (h:S[k]? =some s):Bg S (k+1)=(Bg S k).set k (q0 s):=by
 obtain ⟨ar,rfl⟩:=aRC.1 h;unfold Bg;have e:((S.take k).map q0).length=k:=by rw [aSz,aRE];omega
 rw [aR2 ar,aR3,aR9,aUT _ _ (by omega),e,aVm,aTp ar];rfl
theorem aCO {S:List b6} {k:Nat} {s:b6} (h:sV S) (hs:S[k]? =some s):0≤s.late∧s.late≤1000000:=by
 have τ:=(h.2.2 k s hs).2;unfold b6.wH at τ;simp only [aRI,aSE,aSn,aSg] at τ;omega
def tF (m:Nat) (x:List b6×List aF) (i:Nat):List b6×List aF:=match x.1[i]? with
 | some s=>if 0<s.waits.length∧x.2.length<m then (x.1.set i ⟨s.waits.drop 1,s.late,s.gone⟩,x.2++ [s.waits.getD 0 default]) else x
 | none=>x
def FV (m:Nat) (x:List b6×List aF):List b6×List aF:=(List.range x.1.length).foldl (tF m) x
def xn (m:Nat):Nat→List b6×List aF→List b6×List aF
 | 0,x=>x
 | f+1,x=>if (FV m x).2.length=x.2.length then FV m x else xn m f (FV m x)
def pM (m:Nat) (S:List b6):List b6×List aF:=xn m (m+1) (S.map q0, [])
theorem ald {m i:Nat} {S:List b6} {out:List aF} {s:b6} (hs:S[i]? =some s) (h:¬(0<s.waits.length∧out.length<m)):tF m (S,out) i=(S,out):=by
 unfold tF;rw [show (S,out).1[i]? =some s from hs];exact aRL h
theorem ale {m i:Nat} {S:List b6} {out:List aF} {s:b6} (hs:S[i]? =some s) (h:0<s.waits.length∧out.length<m):tF m (S,out) i=(S.set i ⟨s.waits.drop 1,s.late,s.gone⟩,out++ [s.waits.getD 0 default]):=by
 unfold tF;rw [show (S,out).1[i]? =some s from hs];exact aRP h
theorem aeO (m i:Nat) (x:List b6×List aF):(List.range (i+1)).foldl (tF m) x=tF m ((List.range i).foldl (tF m) x) i:=by rw [aTg,aTd];rfl
theorem aqE {m f:Nat} {x y:List b6×List aF} (aL:FV m x=y) (h:y.2.length=x.2.length) (hf:0<f):xn m f x=y:=by
 obtain ⟨f,rfl⟩:∃ k,f=k+1:=⟨f - 1,by omega⟩;rw [xn,aL,aRP h]
theorem aqF {m f:Nat} {x y:List b6×List aF} (aL:FV m x=y) (h:¬ y.2.length=x.2.length) (hf:0<f):xn m f x=xn m (f - 1) y:=by
 obtain ⟨f,rfl⟩:∃ k,f=k+1:=⟨f - 1,by omega⟩;rw [xn,aL,aRL h];rfl
def acW (S:List b6) (m:Int):Prop:=sV S∧1≤m∧m≤100
def anm (S:List b6) (m:Int) (e:Int) (oM:List b6) (out:List aF):Prop:=(e=0∧acW S m∧(oM,out)=pM m.toNat S)∨(e≠0∧¬ acW S m∧oM= []∧out= [])
def JE (m:Nat) (C x:List b6×List aF) (Cq:Bool):Prop:=(Cq=true∧∃ f,m<f+x.2.length∧xn m f x=C)∨(Cq=false∧x=C)
theorem JE.next {m:Nat} {C x y:List b6×List aF} (h:JE m C x true) (aL:FV m x=y) (hm:x.2.length≤m) (az:x.2.length≤y.2.length):JE m C y (decide (y.2.length≠x.2.length)):=by
 rcases h with ⟨_,f,τ,aa⟩ | ⟨h,_⟩
 ·by_cases he:y.2.length=x.2.length
  ·refine .inr ⟨by simp [he], ?_⟩;rw [← aa,aqE aL he (by omega)]
  ·refine .inl ⟨by simp [he],f - 1,by omega, ?_⟩;rw [← aa,aqF aL he (by omega)]
 ·cases h
theorem aCM {α:Type} {l:List α} {k:Nat} {a:α} (h:l[k]? =some a):l.set k a=l:=by
 obtain ⟨ar,rfl⟩:=aRC.1 h;exact aTn ar
theorem akG {T:List bz} {k q:Nat} {A:Option Addr} {n c jQ b4:Nat} {l:Int} {g:Bool} (b8:T[k]? =some ⟨A,n,c,l,g⟩) (h:q∈eJ (T.set k ⟨eF A c 1 6,jQ,b4,l,g⟩)):q∈eJ T:=(MY h).elim RX λ h=>sw b8 (akE h)
theorem aqD {m a b:Nat} {g:Bool} (h:g=decide (b≠a)) (τ:a≤b) (aa:b≤m):m+1 - b+g.toNat<m+1 - a+true.toNat:=by
 subst h;by_cases e:b=a
 ·subst e;simp
 ·simp [e];omega
theorem aCL (A:Option Addr) (c:Nat) (T:List bz) (S:List b6) (m:Int) (w:World) (b8:bz.rep.aJ 40 w A c T) (hS:pJ w T S):
  Calls prog 106 #[.slice A T.length c, .int .i64 m] w (λ e w'=>∃ (e':Int) (bG:Option Addr) (b4:Nat) (j3:List bz) (oM:List b6) (j0:Option Addr) (co:Nat) (out:List aF),e= .returned (.tuple #[.slice bG j3.length b4, .slice j0 out.length co, .int .i64 e'])∧anm S m e' oM out∧bz.rep.aD 90 40 w' w.heap.size (κ.ae bG) bG b4 j3∧hJ w' w.heap.size j3 oM∧aF.rep.aD 51 48 w' w.heap.size (κ.ae j0) j0 co out∧(∀ q∈κ.ae bG,q∉eJ j3)∧(∀ q∈κ.ae j0,q∉κ.ae bG∧q∉eJ j3)∧Ext w w'):=by
 have A_:=b8.ez;have QA:=b8.2.2.1;refine ch (n:=102) func106 Z Z Z ?_;refine aj<|va Z<|va Z<|va Z<|ai<|aA<|aj<|vm Z<|ca PG Z Z ((RV _ _ T S _ (b8.keep (Ext.bF w)) (hS.keep (Ext.bF w))).mono ?_);rintro e lg ⟨D5,rfl,td,a7⟩;refine ⟨_,Z, ?_⟩;have:=a7.size;have eB:=γ (Ext.bF w) a7;refine va Z<|ai<|aj<|vm Z<|J (bne Z Z)<|ai<| ?_;refine e1 Z (λ lX=> ?_) (λ lX=> ?_)
 ·refine aj<|vm Z<|va Z<|va Z<|va Z<|ai<|rt<|bT<|bb (.tmp Z (.tmp Z (.tmp Z .nil)))<| ?_;exact ⟨D5,none,0, [], [],none,0, [],Z, .inr ⟨(by simpa using lX),(λ bd=>(show ¬ D5=0 by simpa using lX) (td.2 bd.1)),Z,Z⟩,κ.aD.nil _,hJ.nil _ _,κ.aD.nil _,λ q I=>by simp [κ.ae] at I,λ q I=>by simp [κ.ae] at I,eB⟩
 ·have EW:=td.1 (by simpa using lX);refine bt<|aA<|aj<|vm Z<|J (blt Z Z)<|vm Z<|bp Z Z Z Z (λ hc=>aM Z) Z<|bp Z Z Z Z (λ hc=>iw (gt hc Z) Z) Z<|J (fv Z Z Z Z)<|ai<| ?_;refine dJ Z (λ pV=> ?_) (λ pV=> ?_)
  ·simp only [cC] at pV;refine aj<|va Z<|va Z<|va Z<|ai<|rt<|bT<|bb (.tmp Z (.tmp Z (.tmp Z .nil)))<| ?_;exact ⟨1,none,0, [], [],none,0, [],Z, .inr ⟨(by decide),(λ bd=>by have:=bd.2;omega),Z,Z⟩,κ.aD.nil _,hJ.nil _ _,κ.aD.nil _,λ q I=>by simp [κ.ae] at I,λ q I=>by simp [κ.ae] at I,eB⟩
  ·simp only [cC] at pV;have HY:1≤m∧m≤100:=by omega
   refine bt<|aj<|vm Z<|ca U2 Z Z ((Y8 _ _ T S _ (b8.keep eB) (hS.keep eB)).mono ?_);rintro e Zy ⟨qA,dT,AA,rfl,TJ,Ou,avW,amv⟩;refine ⟨_,Z, ?_⟩;have:=amv.size;have yu:=γ eB amv;have aD8:=λ q I=>(TJ.lt q I).2;have aM0:=λ q I=>(TJ.lt q I).1;have aPG:=λ q I=>(Ou.lt q I).2;have aLM:=λ q I=>(Ou.lt q I).1;refine va Z<|ai<|aA<|aj<|vm Z<|J (cA underlying80 Z)<|vm Z<|ai<|bM<| ?_;have ags:AA.length=S.length:=Ou.ye.len;have Lp:=hS.len;have anZ:hJ Zy lg.heap.size AA (Bg S 0):=Ou.IW;refine e8 (λ cm cl aU=>∃ k:Nat,∃ lu:List bz,cl= [(0, .slice qA AA.length dT),(1, .int .i64 m),(4, .slice none 0 0),(5, .slice none 0 0),(6, .int .i64 0),(28, .int .i64 (AA.length:Int)),(29, .int .i64 (k:Int))]∧cm=S.length - k∧Ext w aU∧bz.rep.aD 90 40 aU lg.heap.size (κ.ae qA) qA dT lu∧hJ aU lg.heap.size lu (Bg S k)∧(k≤S.length)∧(lu.length=S.length)∧(∀ q∈eJ lu,q∈κ.ae qA→False)) _ _ ⟨0,AA,Z,Z,yu,TJ,anZ,by omega,ags,λ q τ aa=>avW q aa τ⟩ (.cons Z (.cons Z (.cons Z (.cons Z (.cons Z (.cons Z (.cons (bZ Z (by first | omega | rfl | (simp<;>omega))) .nil))))))) ?_;rintro X6 aG1 zU ⟨k,lu,rfl,rfl,iU,w9,sQ,ar,uO,CY⟩;have:=iU.size;have alC:=λ q I=>(w9.lt q I).2;have aPH:∀ q∈eJ lu,q<zU.heap.size:=λ q I=>(sQ.lt q I).2;have aLO:∀ q∈eJ lu,lg.heap.size≤q:=λ q I=>(sQ.lt q I).1;refine aj<|J (blt Z Z)<|ai<|aA<| ?_;refine eg Z (λ lW=> ?_) (λ lW=> ?_)
   ·obtain ⟨en,dt,bh,fK,jy,xa⟩:=sQ.get (k:=k) (by omega);rw [Q8] at jy;have sa:=aCO EW jy;refine bt<|aA<|bM<|aj<|vm Z<|va Z<|ai<|aj<|vm Z<|vm Z<|J (b' k underlying80 jL Z Z (w9.has.bR (ba k)) Z (by omega))<|va Z<|ai<|bM<|aj<|vm Z<|J (b3 Z)<|J (av qL Z)<| ?_;refine J (v:= .slice en bh.waits.length dt) (ao Z (κ.aJ.j7 nw (w9.has.cu (ba k)) 0 fK Z n9))<|J (cA underlying44 Z)<|J (iw Z Z)<|va Z<|ai<| ?_;refine eg Z (λ n_=> ?_) (λ n_=> ?_)
    ·refine rg<|vm Z<|J (b3 Z)<|J (av Hj Z)<|so (q':=(⟨(⟨en,bh.waits.length,dt,bh.late,bh.gone⟩:bz).a,(⟨en,bh.waits.length,dt,bh.late,bh.gone⟩:bz).n,(⟨en,bh.waits.length,dt,bh.late,bh.gone⟩:bz).c,0,(⟨en,bh.waits.length,dt,bh.late,bh.gone⟩:bz).gone⟩:bz)) (j:=1) (i:=k) w9 κ.di fK Z Z Z Z (λ _ cs h=>by have qd:=(show _∧_ from h).2;obtain rfl:=nw h;exact ⟨rfl,bI.2 (by (try dsimp only);omega)⟩) Z Z dK λ yj Bo aog=> ?_;have:=Bo.size;have kB:=Ext.mod iU Bo (λ q I=>aR5 (by omega) (w9.lt q I).1);refine nl<|b0<|b0<|aV<|rg<|J (bad Z Z (bE (by omega)))<|vm Z<|nl<| ?_;have sQ:=sQ.mod Bo (λ q I h=>by exfalso;(exact CY q I h));obtain ⟨_,K3,_,TK⟩:=sQ.2 k _ fK;obtain rfl:=aRA ((Q8.trans jy).symm.trans K3);have VY:q0 bh=⟨bh.waits,0,bh.gone⟩:=by unfold q0;rw [aRP (by omega)]
     exact c6 _ _ ⟨k+1,(lu).set k ((⟨(⟨en,bh.waits.length,dt,bh.late,bh.gone⟩:bz).a,(⟨en,bh.waits.length,dt,bh.late,bh.gone⟩:bz).n,(⟨en,bh.waits.length,dt,bh.late,bh.gone⟩:bz).c,0,(⟨en,bh.waits.length,dt,bh.late,bh.gone⟩:bz).gone⟩:bz)),Z,Z,kB,aog,(by rw [XP jy,VY];exact hJ.set (s:=⟨bh.waits,0,bh.gone⟩) sQ (by omega) TK),by omega,by rw [aRK];exact uO,λ q τ aa=>(MY τ).elim (λ τ=>CY q (RX τ) aa) (λ τ=>CY q (sw fK τ) aa)⟩ (by omega) (.cons Z (.cons Z (.cons Z (.cons Z (.cons Z (.cons Z (.cons (bZ Z (by first | omega | rfl | (simp<;>omega))) .nil)))))))
    ·refine aj<|vm Z<|J (b3 Z)<|J (av Hk Z)<|J (v:= .bool bh.gone) (ao Z (κ.aJ.j7 nw (w9.has.cu (ba k)) 2 fK Z EL))<|J (dZ Z)<|va Z<|ai<| ?_;refine dJ Z (λ oW=> ?_) (λ oW=> ?_)
     ·simp only [aSE,aS7] at oW;refine rg<|vm Z<|vm Z<|J (b3 Z)<|J (av Hj Z)<|J (v:= .int .i64 bh.late) (ao Z (κ.aJ.j7 nw (w9.has.cu (ba k)) 1 fK Z bc))<|J (bad Z Z (bE (by omega)))<|J (nL Z Z)<|J (b3 Z)<|J (av Hj Z)<|so (q':=(⟨(⟨en,bh.waits.length,dt,bh.late,bh.gone⟩:bz).a,(⟨en,bh.waits.length,dt,bh.late,bh.gone⟩:bz).n,(⟨en,bh.waits.length,dt,bh.late,bh.gone⟩:bz).c,min (bh.late+1) 1000000,(⟨en,bh.waits.length,dt,bh.late,bh.gone⟩:bz).gone⟩:bz)) (j:=1) (i:=k) w9 κ.di fK Z Z Z Z (λ _ cs h=>by have qd:=(show _∧_ from h).2;obtain rfl:=nw h;exact ⟨rfl,bI.2 (by (try dsimp only);omega)⟩) Z Z dK λ BI hj sT=> ?_;have:=hj.size;have qu:=Ext.mod iU hj (λ q I=>aR5 (by omega) (w9.lt q I).1);refine nl<|b0<|b0<|aV<|rg<|J (bad Z Z (bE (by omega)))<|vm Z<|nl<| ?_;have sQ:=sQ.mod hj (λ q I h=>by exfalso;(exact CY q I h));obtain ⟨_,K3,_,TK⟩:=sQ.2 k _ fK;obtain rfl:=aRA ((Q8.trans jy).symm.trans K3);have VY:q0 bh=⟨bh.waits,min (bh.late+1) 1000000,bh.gone⟩:=by unfold q0;rw [aRL (by omega),aRP oW]
      exact c6 _ _ ⟨k+1,(lu).set k ((⟨(⟨en,bh.waits.length,dt,bh.late,bh.gone⟩:bz).a,(⟨en,bh.waits.length,dt,bh.late,bh.gone⟩:bz).n,(⟨en,bh.waits.length,dt,bh.late,bh.gone⟩:bz).c,min (bh.late+1) 1000000,(⟨en,bh.waits.length,dt,bh.late,bh.gone⟩:bz).gone⟩:bz)),Z,Z,qu,sT,(by rw [XP jy,VY];exact hJ.set (s:=⟨bh.waits,min (bh.late+1) 1000000,bh.gone⟩) sQ (by omega) TK),by omega,by rw [aRK];exact uO,λ q τ aa=>(MY τ).elim (λ τ=>CY q (RX τ) aa) (λ τ=>CY q (sw fK τ) aa)⟩ (by omega) (.cons Z (.cons Z (.cons Z (.cons Z (.cons Z (.cons Z (.cons (bZ Z (by first | omega | rfl | (simp<;>omega))) .nil)))))))
     ·simp only [aSE,aS7] at oW;refine e9<|b0<|b0<|aV<|rg<|J (bad Z Z (bE (by omega)))<|vm Z<|nl<| ?_;exact c6 _ _ ⟨k+1,lu,Z,Z,iU,w9,(by rw [XP jy,show q0 bh=bh from by unfold q0;rw [aRL (by omega),aRL (by rw [oW];decide)],aCM (by rw [Q8];exact jy)];exact sQ),by omega,uO,CY⟩ (by omega) (.cons Z (.cons Z (.cons Z (.cons Z (.cons Z (.cons Z (.cons (bZ Z (by first | omega | rfl | (simp<;>omega))) .nil)))))))
   ·have k8:k=S.length:=by omega
    subst k8;rw [ay1] at sQ;refine dH<|dG<|ef<|dF<|aV<|aj<|va Z<|ai<|aA<|aj<|va Z<|ai<|bM<| ?_;refine e8 (λ cm cl aU=>∃ yY:List bz,∃ Co:List b6,∃ cW:Option Addr,∃ hM:Nat,∃ out:List aF,∃ Cq:Bool,cl= [(0, .slice qA AA.length dT),(1, .int .i64 m),(4, .slice none 0 0),(5, .slice none 0 0),(6, .int .i64 0),(10, .slice cW out.length hM),(11, .bool Cq)]∧cm=m.toNat+1 - out.length+Cq.toNat∧Ext w aU∧bz.rep.aD 90 40 aU lg.heap.size (κ.ae qA) qA dT yY∧aF.rep.aD 51 48 aU w.heap.size (κ.ae cW) cW hM out∧hJ aU lg.heap.size yY Co∧(JE m.toNat (pM m.toNat S) (Co,out) Cq)∧(yY.length=S.length)∧(out.length≤m.toNat)∧(∀ q∈eJ yY,q∈κ.ae qA→False)∧(∀ q∈eJ yY,q∈κ.ae cW→False)∧(Co.length=S.length)∧(∀ q∈κ.ae cW,q∈κ.ae qA→False)) _ _ ⟨lu,(S.map q0),none,0, [],true,Z,Z,iU,w9,(κ.aD.nil _),sQ, .inl ⟨Z,_,by simp,rfl⟩,uO,by simp,CY,λ q τ aa=>by simp [κ.ae] at aa,by simp,(λ q I Φ=>by (simp [κ.ae] at I))⟩ (wI Z) ?_;rintro sk aHa zV ⟨yY,Co,cW,hM,out,Cq,rfl,rfl,my,TH,TG,Ov,dM,agm,agL,hdr,QM,agl,adA⟩;have:=my.size;have zR:=λ q I=>(TH.lt q I).2;have DA:=λ q I=>(TG.lt q I).2;have aPI:∀ q∈eJ yY,q<zV.heap.size:=λ q I=>(Ov.lt q I).2;have aLP:∀ q∈eJ yY,lg.heap.size≤q:=λ q I=>(Ov.lt q I).1;refine aA<|aj<|vm Z<|ai<| ?_;refine dJ Z (λ rV=> ?_) (λ rV=> ?_)
    ·rw [rV] at dM;refine bt<|bM<|aj<|va Z<|ai<|aj<|vm Z<|J (cA underlying80 Z)<|vm Z<|ai<|bM<| ?_;refine e8 (λ cm cl aU=>∃ i:Nat,∃ xe:List bz,∃ Et:List b6,∃ yD:Option Addr,∃ ci:Nat,∃ cJ:List aF,∃ zf:Bool,cl= [(0, .slice qA AA.length dT),(1, .int .i64 m),(4, .slice none 0 0),(5, .slice none 0 0),(6, .int .i64 0),(10, .slice yD cJ.length ci),(11, .bool zf),(61, .bool Cq),(62, .slice qA AA.length dT),(63, .int .i64 (AA.length:Int)),(64, .int .i64 (i:Int))]∧cm=S.length - i∧Ext w aU∧bz.rep.aD 90 40 aU lg.heap.size (κ.ae qA) qA dT xe∧aF.rep.aD 51 48 aU w.heap.size (κ.ae yD) yD ci cJ∧hJ aU lg.heap.size xe Et∧(i≤S.length)∧(xe.length=S.length)∧(cJ.length≤m.toNat)∧(∀ q∈eJ xe,q∈κ.ae qA→False)∧(∀ q∈eJ xe,q∈κ.ae yD→False)∧(Et.length=S.length)∧((Et,cJ)=(List.range i).foldl (tF m.toNat) (Co,out))∧(zf=decide (cJ.length≠out.length))∧(out.length≤cJ.length)∧(∀ q∈κ.ae yD,q∈κ.ae qA→False)) _ _ ⟨0,yY,Co,cW,hM,out,false,Z,Z,my,TH,TG,Ov,by omega,agm,agL,hdr,QM,agl,rfl,(by simp),aRN _,(λ q I Φ=>by (exact adA q I Φ))⟩ (.cons Z (.cons Z (.cons Z (.cons Z (.cons Z (.cons Z (.cons Z (.cons Z (.cons Z (.cons Z (.cons (bZ Z (by first | omega | rfl | (simp<;>omega))) .nil))))))))))) ?_;rintro Bq ant Ni ⟨i,xe,Et,yD,ci,cJ,zf,rfl,rfl,rm,uj,El,pA,aq,W0,W5,Lj,LB,WZ,hF,Vh,W7,EF⟩;have:=rm.size;have alG:=λ q I=>(uj.lt q I).2;have aD6:=λ q I=>(El.lt q I).2;have aDU:∀ q∈eJ xe,q<Ni.heap.size:=λ q I=>(pA.lt q I).2;have aLN:∀ q∈eJ xe,lg.heap.size≤q:=λ q I=>(pA.lt q I).1;refine aj<|J (blt Z Z)<|ai<|aA<| ?_;refine eg Z (λ K9=> ?_) (λ K9=> ?_)
     ·obtain ⟨en,dt,bh,fK,jy,kj⟩:=pA.get (k:=i) (by omega);refine bt<|aA<|bM<|aj<|vm Z<|va Z<|ai<|aj<|vm Z<|vm Z<|J (b' i underlying80 jL Z Z (uj.has.bR (ba i)) Z (by omega))<|va Z<|ai<|aj<|vm Z<|J (b3 Z)<|J (av qL Z)<|J (v:= .slice en bh.waits.length dt) (ao Z (κ.aJ.j7 nw (uj.has.cu (ba i)) 0 fK Z n9))<| ?_;refine J (cA underlying44 Z)<|J (iw Z Z)<|vm Z<|bp Z Z Z Z (λ hc=>aM Z) Z<|bp Z Z Z Z (λ hc=>cA underlying44 (gt hc Z)) Z<|bp Z Z Z Z (λ hc=>aM Z) Z<|bp Z Z Z Z (λ hc=>blt (gt hc Z) (gt hc Z)) Z<|J (e3 Z Z Z Z)<|ai<| ?_;refine dJ Z (λ CT=> ?_) (λ CT=> ?_)
      ·simp only [cC] at CT;have uJ:0<bh.waits.length∧cJ.length<m.toNat:=by omega
       obtain ⟨_,K3,_,kj⟩:=pA.2 i _ fK;obtain rfl:=aRA (jy.symm.trans K3);have aly:=λ q I=>(kj.lt q I).2;have ayJ:=λ q I=>(kj.lt q I).1;have Pt:∀ q∈κ.ae en,q∈κ.ae qA→False:=λ q τ aa=>Lj q (sw fK τ) aa;have adJ:∀ q∈κ.ae en,q∈κ.ae yD→False:=λ q τ aa=>LB q (sw fK τ) aa;have aw8:(bh.waits.getD 0 default).ok:=aF.mj kj.has _ (ih uJ.1);refine RN (κ.ae yD) [(5,0),(7,0),(8,2),(9,2),(13,0),(18,3)] [0,1,2,3,4,5,6,7,10,11,12,13,14,8,9,15,16,17,18,19] (by kernel_rfl) (by kernel_rfl) ?_;refine jx Z Z (λ _=>aM Z) Z<|jx Z Z (λ _=>aM Z) Z<|jx Z Z (λ _=>aM Z) Z<|jx Z Z (λ _=>b3 Z) Z<|jx Z Z (λ _=>av qL Z) Z<|ze (v:= .slice en bh.waits.length dt) Z Z (λ _ x=>ao Z (κ.aJ.j7 nw ((uj.mod x (λ q I h=>by exfalso;(exact EF q h I))).has.cu (ba i)) 0 fK Z n9)) Z<|jx Z Z (λ _=>b' 0 underlying44 dN Z Z (kj.has.bR (ba 0)) Z (by omega)) Z<|ze Z Z (λ _ x=>ao Z (κ.aJ.ho CX ((kj.mod x (λ q I h=>by exfalso;(exact adJ q I h))).has.cu (ba 0)) (dv (l:=bh.waits) (u:=default) (by omega)) hN dN)) Z<|jx Z Z (λ _=>aM Z) Z<|jx Z Z (λ _=>b3 Z) Z<|jx Z Z (λ _=>av qL Z) Z<|ze (v:= .slice en bh.waits.length dt) Z Z (λ _ x=>ao Z (κ.aJ.j7 nw ((uj.mod x (λ q I h=>by exfalso;(exact EF q h I))).has.cu (ba i)) 0 fK Z n9)) Z<|jx Z Z (λ _=>YY 1 underlying44 dN Z Z Z (by omega)) Z<|ES Z Z Z λ Nn ji Q hK=>cX (e:= 51) (cs:= [.int .i64 ((bh.waits.getD 0 default).by_), .int .i64 ((bh.waits.getD 0 default).kind), .int .i64 ((bh.waits.getD 0 default).aQ), .int .i64 ((bh.waits.getD 0 default).spot.x), .int .i64 ((bh.waits.getD 0 default).spot.y), .int .i64 ((bh.waits.getD 0 default).what)]) Z (λ _=>by kernel_rfl) Z λ BN vJ iD XO wZ=>hK _ _ ⟨Mod.bC (γ ji iD), ?_⟩;have:=ji.size;have qw:=γ rm ji;have:=iD.size;have lN:=γ qw iD;have YG:=wZ.lt;have El:=El.later (γ ji iD);refine ES Z Z Z λ ZB hU Q hK=>ap aoB κ.di (El.later hU) ((aR.gB (R:=aF.rep) (by_:=48) (q:=bh.waits.getD 0 default) wZ ⟨Z,aw8⟩ (by decide)).keep hU) Z Z (by simp only [aRG,aRM];omega) (by simp only [aRG,aRM];omega) (by have:=hU.size;omega) Z λ Nr GF qK kR yX ET aAc=>hK _ _ ⟨(Mod.bC hU).trans kR, ?_⟩;have:=hU.size;have Gp:=γ lN hU;have:=kR.size;have yA:=Ext.mod Gp kR (λ q I=>aR5 (by omega) ((El.later hU).lt q I).1);have wL:=λ q I=>(yX.lt q I).2;have:=kR.size;refine jx Z Z (λ _=>fg Z) Z<|jx Z Z (λ _=>b3 Z) Z<|jx Z Z (λ _=>av qL Z) Z<| ?_;have uj:=uj.later (γ ji (γ iD hU));have uj:=uj.mod kR (λ q I h=>by exfalso;(exact EF q h I));refine Vn Z Z Z λ ZE iE Q hK=>so (q':=(⟨eF en dt 1 6,bh.waits.length - 1,dt - 1,(⟨en,bh.waits.length,dt,bh.late,bh.gone⟩:bz).late,(⟨en,bh.waits.length,dt,bh.late,bh.gone⟩:bz).gone⟩:bz)) (j:=0) (i:=i) (uj.later iE) κ.di fK Z Z Z Z (λ _ cs h=>by have qd:=(show _∧_ from h).2;obtain rfl:=nw h;exact ⟨rfl,qd⟩) Z Z AP λ SB o6 TQ=>hK _ _ ?_;have:=iE.size;have BZ:=γ yA iE;have:=o6.size;have yC:=Ext.mod BZ o6 (λ q I=>aR5 (by omega) ((uj.later iE).lt q I).1);refine jx Z Z (λ _=>fg Z) Z<|PZ λ ZH Jp=> ?_;have:=Jp.size;have vy:=γ yC Jp;refine b0<|aV<|rg<|J (bad Z Z (bE (by omega)))<|vm Z<|nl<| ?_;have TQ:=TQ.later Jp;have yX:=yX.later iE;have yX:=yX.mod o6 (λ q I h=>by exfalso;(exact aRO (ET q I) (λ Da=>by (exact EF q Da h)) (λ Da=>by (have:=alG q h;omega))));have yX:=yX.later Jp;have pA:=pA.later (γ ji (γ iD hU));have pA:=pA.mod kR (λ q I h=>by exfalso;(exact LB q I h));have pA:=pA.later iE;have pA:=pA.mod o6 (λ q I h=>by exfalso;(exact Lj q I h));have pA:=pA.later Jp;have kj:=kj.later (γ ji (γ iD hU));have kj:=kj.mod kR (λ q I h=>by exfalso;(exact adJ q I h));have kj:=kj.later iE;have kj:=kj.mod o6 (λ q I h=>by exfalso;(exact Pt q I h));have kj:=kj.later Jp;have au1:=kj.cut uJ.1;have qV:(bh.waits.drop 1).length=bh.waits.length - 1:=aRV;exact c6 _ _ ⟨i+1,(xe).set i ((⟨eF en dt 1 6,bh.waits.length - 1,dt - 1,(⟨en,bh.waits.length,dt,bh.late,bh.gone⟩:bz).late,(⟨en,bh.waits.length,dt,bh.late,bh.gone⟩:bz).gone⟩:bz)),Et.set i ⟨bh.waits.drop 1,bh.late,bh.gone⟩,GF,qK,cJ++ [bh.waits.getD 0 default],true,Z,Z,vy,TQ,yX,(by have bd:=hJ.set (s:=⟨bh.waits.drop 1,bh.late,bh.gone⟩) (k:=i) pA (by omega) au1;rw [qV] at bd;exact bd),by omega,by rw [aRK];exact W0,by rw [aRH,aSf];omega,λ q τ aa=>Lj q (akG fK τ) aa,λ q τ aa=>(λ τ=>by (exact aRO (ET q aa) (λ xV=>by (exact LB q τ xV)) (λ xV=>by (have:=aDU q τ;omega)))) (akG fK τ),by rw [aRK];exact WZ,by rw [aeO,← hF,ale jy uJ],by rw [aRH,aSf];exact (aSe (by omega)).symm,by rw [aRH,aSf];omega,(λ q I Φ=>by (exact aRO (ET q I) (λ Mj=>by (exact EF q Mj Φ)) (λ Mj=>by (have:=alG q Φ;omega))))⟩ (by omega) (.cons Z (.cons Z (.cons Z (.cons Z (.cons Z (.cons Z (.cons Z (.cons Z (.cons Z (.cons Z (.cons (bZ Z (by first | omega | rfl | (simp<;>omega))) .nil)))))))))))
      ·simp only [cC] at CT;have uJ:¬(0<bh.waits.length∧cJ.length<m.toNat):=by omega
       refine e9<|b0<|aV<|rg<|J (bad Z Z (bE (by omega)))<|vm Z<|nl<| ?_;exact c6 _ _ ⟨i+1,xe,Et,yD,ci,cJ,zf,Z,Z,rm,uj,El,pA,by omega,W0,W5,Lj,LB,WZ,by rw [aeO,← hF,ald jy uJ],Vh,W7,(λ q I Φ=>by (exact EF q I Φ))⟩ (by omega) (.cons Z (.cons Z (.cons Z (.cons Z (.cons Z (.cons Z (.cons Z (.cons Z (.cons Z (.cons Z (.cons (bZ Z (by first | omega | rfl | (simp<;>omega))) .nil)))))))))))
     ·have atF:i=S.length:=by omega
      refine dH<|dG<|ef<|dF<|b0<| ?_;exact c6 _ _ ⟨xe,Et,yD,ci,cJ,zf,Z,Z,rm,uj,El,pA,by rw [Vh];exact JE.next dM (by unfold FV;rw [show (Co,out).1.length=S.length from agl,← atF];exact hF.symm) agL W7,W0,W5,Lj,LB,WZ,(λ q I Φ=>by (exact EF q I Φ))⟩ (by rw [rV];exact aqD Vh W7 W5) (wI Z)
    ·refine dH<|dG<|ef<|dF<|aV<|aj<|vm Z<|vm Z<|va Z<|va Z<|va Z<|ai<|rt<|bb (.tmp Z (.tmp Z (.tmp Z .nil)))<| ?_;exact ⟨0,_,_,yY,Co,cW,hM,out,by rw [agm,ags];rfl, .inl ⟨rfl,⟨EW,HY⟩,(by rcases dM with ⟨bd,_⟩ | ⟨_,bd⟩;exact absurd bd (by simp [rV]);exact bd)⟩,TH.down (by omega),Ov.down (by omega),TG,λ q τ aa=>hdr q aa τ,λ q τ=>⟨λ aa=>by exfalso;(exact adA q τ aa),λ aa=>QM q aa τ⟩,my⟩
end
end Go.Proofs.YtlikikpgmmkjbaaGreat
namespace Go.Proofs.YtlikikpgmmkjbaaGreat.bN
open Tryz
def nt:Nat→Nat→Nat
 | 0,_=>0
 | f+1,x=>x % 2+nt f (x / 2)
theorem UB (f g x:Nat):nt (f+g) x=nt f x+nt g (x / 2 ^ f):=by
 induction f generalizing x with
 | zero=>simp [nt]
 | succ f bD =>
  rw [Nat.succ_add,nt,nt,bD,aUG,aUF,aSM 2];omega
theorem UC (f x:Nat):nt f (x % 2 ^ f)=nt f x:=by
 induction f generalizing x with
 | zero=>rfl
 | succ f bD =>
  rw [nt,nt,aUF];have τ:x % (2 ^ f * 2) % 2=x % 2:=Nat.mod_mod_of_dvd _ ⟨2 ^ f,aSM _ _⟩;have aa:x % (2 ^ f * 2) / 2=x / 2 % 2 ^ f:=by rw [aSM,Nat.mod_mul_right_div_self]
  rw [τ,aa,bD]
theorem Ha (f x:Nat):nt f x≤f:=by
 induction f generalizing x with
 | zero=>exact aRN _
 | succ f bD=>have:=bD (x / 2);rw [nt];omega
def size (x:Nat):Nat:=nt 32 x
theorem size_bytes (x:Nat) (h:x<4294967296):size x=nt 8 (x / 16777216)+nt 8 (x / 65536 % 256)+nt 8 (x / 256 % 256)+nt 8 (x % 256):=by
 unfold size;rw [show (32:Nat)=8+(8+(8+8)) from rfl,UB,UB,UB,aUG,aUG];rw [show (256:Nat)=2 ^ 8 from rfl,UC,UC,UC];simp only [Nat.reducePow,Nat.reduceMul];omega
theorem RD (n:Nat) (h:n<256):Lib.pop8 (n:Int)=(nt 8 n:Int):=by
 have e:=Lib.pop8_eq ⟨n,h⟩;have bj:∀ m:Fin 256,Lib.onesCount m.val=nt 8 m.val:=by decide +kernel
 rw [bj ⟨n,h⟩] at e;exact e
end Go.Proofs.YtlikikpgmmkjbaaGreat.bN
namespace Go.Proofs.YtlikikpgmmkjbaaGreat
open Tryz
end Go.Proofs.YtlikikpgmmkjbaaGreat
namespace Go.Proofs.YtlikikpgmmkjbaaGreat.bN
open Tryz
open Go.RowKit Go.Proofs.YtlikikpgmmkjbaaGreat Go.Proofs.YtlikikpgmmkjbaaGreat.fc

theorem aCt {a b:Int} (h:a=b):Ending.returned (.int .i64 a)= .returned (.int .i64 b):=by rw [h]
theorem T3 (a:Nat) (h:a<4294967296):bits .and .u32 (a:Int) 255=((a % 256:Nat):Int):=by
 have τ:=(aVD .u32 32 (by decide) (fun n aH τ=>by simp [IntKind.wrap,IntKind.signed,IntKind.bits];omega) a 255 (by omega) (by omega)).1;have e:a &&& 255=a % 256:=Nat.and_two_pow_sub_one_eq_mod a 8;rw [e] at τ;exact τ
@[go_sem high] theorem aJs:(⟨((([0,1,1,2,1,2,2,3,1,2,2,3,2,3,3,4,1,2,2,3,2,3,3,4,2,3,3,4,3,4,4,5,1,2,2,3,2,3,3,4,2,3,3,4,3,4,4,5,2,3,3,4,3,4,4,5,3,4,4,5,4,5,5,6]:List UInt8).append [1,2,2,3,2,3,3,4,2,3,3,4,3,4,4,5,2,3,3,4,3,4,4,5,3,4,4,5,4,5,5,6,2,3,3,4,3,4,4,5,3,4,4,5,4,5,5,6,3,4,4,5,4,5,5,6,4,5,5,6,5,6,6,7]).append (([1,2,2,3,2,3,3,4,2,3,3,4,3,4,4,5,2,3,3,4,3,4,4,5,3,4,4,5,4,5,5,6,2,3,3,4,3,4,4,5,3,4,4,5,4,5,5,6,3,4,4,5,4,5,5,6,4,5,5,6,5,6,6,7]:List UInt8).append [2,3,3,4,3,4,4,5,3,4,4,5,4,5,5,6,3,4,4,5,4,5,5,6,4,5,5,6,5,6,6,7,3,4,4,5,4,5,5,6,4,5,5,6,5,6,6,7,4,5,5,6,5,6,6,7,5,6,6,7,6,7,7,8])).toArray⟩:ByteArray)=Lib.pop8tab:=by decide +kernel
theorem aqJ (n:Nat) (hn:n<4294967296) (w:World):
  Calls prog 204 #[.int .u32 (n:Int)] w fun e w'=>e= .returned (.int .i64 (size n:Int))∧∃ q,w'=w.drewN q:=by
 have d1:(n:Int) / 16777216=((n / 16777216:Nat):Int):=by omega
 have d2:(n:Int) / 65536=((n / 65536:Nat):Int):=by omega
 have d3:(n:Int) / 256=((n / 256:Nat):Int):=by omega
 have a2:=T3 (n / 65536) (by omega);have a3:=T3 (n / 256) (by omega);have a4:=T3 n hn;have eQ:=RD (n / 16777216) (by omega);have fo:=RD (n / 65536 % 256) (by omega);have mW:=RD (n / 256 % 256) (by omega);have x9:=RD (n % 256) (by omega);have i1:(0:Int)≤((n / 16777216:Nat):Int)∧((n / 16777216:Nat):Int)≤255:=by omega
 have i2:(0:Int)≤((n / 65536 % 256:Nat):Int)∧((n / 65536 % 256:Nat):Int)≤255:=by omega
 have i3:(0:Int)≤((n / 256 % 256:Nat):Int)∧((n / 256 % 256:Nat):Int)≤255:=by omega
 have i4:(0:Int)≤((n % 256:Nat):Int)∧((n % 256:Nat):Int)≤255:=by omega
 have c1:=Ha 8 (n / 16777216);have c2:=Ha 8 (n / 65536 % 256);have c3:=Ha 8 (n / 256 % 256);have c4:=Ha 8 (n % 256);rw [size_bytes n hn];generalize n / 16777216=mI at *
 generalize n / 65536=mY at *
 generalize n / 256=ya at *
 generalize mY % 256=fz at *
 generalize ya % 256=gR at *
 generalize dx:n % 256=AB at *
 obtain ⟨i10,i11⟩:=i1;obtain ⟨i20,i21⟩:=i2;obtain ⟨i30,i31⟩:=i3;obtain ⟨i40,i41⟩:=i4;go_enter func204,ntmps204;go_wp2_with fail
 go_quiet (fail)
 go_wp2_with fail
 go_ret;exact ⟨aCt (by push_cast;rfl),nq,Z⟩

theorem aqK (n:Nat) (hn:n<4294967296) (w:World):
  Calls prog 174 #[.int .u32 (n:Int)] w fun e w'=>e= .returned (.int .i64 (size n:Int))∧∃ q,w'=w.drewN q:=by
 go_enter func174,ntmps174;go_wp2_with fail
 refine (aqJ n hn _).mono ?_;rintro e w' ⟨rfl,q,rfl⟩;go_wp2_with fail
 go_ret;exact ⟨Z,q,Z⟩
def zD (t:Int):List Nat→Nat→Int
 | [],_=> -1
 | x::xs,i=>if t≤(size x:Int) then (i:Int) else zD t xs (i+1)
def Sets (w:World) (b o:Nat) (l:List Nat):Prop:=∀ k,(h:k<l.length)→w.cell? ⟨b,o+k,none⟩=some (.int .u32 ((l[k]:Nat):Int))∧l[k]<4294967296
theorem Sets.later {w w':World} {b o:Nat} {l:List Nat} (h:Sets w b o l) (Φ:Below w.heap.size w w'):Sets w' b o l :=
 fun k ar=>⟨cell_later Φ (h k ar).1,(h k ar).2⟩
end Go.Proofs.YtlikikpgmmkjbaaGreat.bN
namespace Go.Proofs.YtlikikpgmmkjbaaGreat
open Tryz
end Go.Proofs.YtlikikpgmmkjbaaGreat
namespace Go.Proofs.YtlikikpgmmkjbaaGreat.bN
open Tryz
open Go.RowKit Go.Proofs.YtlikikpgmmkjbaaGreat.fc
def diff (a b:Nat):Nat:=(BitVec.ofNat 32 a &&& ~~~BitVec.ofNat 32 b).toNat
theorem Ku (a b:Nat):diff a b<4294967296:=(BitVec.ofNat 32 a &&& ~~~BitVec.ofNat 32 b).isLt
theorem arw (a b i:Nat) (ha:a<4294967296) (aq:i<32):(diff a b).testBit i=(a.testBit i && !b.testBit i):=by
 unfold diff;rw [BitVec.testBit_toNat,BitVec.getLsbD_and,BitVec.getLsbD_not,aWh,aWh];simp [aq]
theorem ajy (a:Nat):BitVec.ofInt 32 (a:Int)=BitVec.ofNat 32 a:=aAF a
theorem arx (a b:Nat):bits .andNot .u32 (a:Int) (b:Int)=(diff a b:Int):=by
 have h:=PS (x:=bits .andNot .u32 (a:Int) (b:Int)) (b:=BitVec.ofNat 32 a &&& ~~~BitVec.ofNat 32 b) (O2 _ _ _) (O1 _ _ _) (by rw [aAC,ajy,ajy]);exact h
theorem SQ (n:Int) (axX:0≤n) (h₁:n<2 ^ 32):IntKind.u32.wrap n=n:=by simp [IntKind.wrap,IntKind.signed,IntKind.bits];omega
theorem aAO (a b:Nat) (ha:a<4294967296) (Φ:b<4294967296):bits .or .u32 (a:Int) (b:Int)=((a ||| b:Nat):Int):=(aVD .u32 32 (by decide) SQ a b ha Φ).2
theorem ao3 (a b:Nat) (ha:a<4294967296) (Φ:b<4294967296):bits .and .u32 (a:Int) (b:Int)=((a &&& b:Nat):Int):=(aVD .u32 32 (by decide) SQ a b ha Φ).1
theorem aps (a k:Nat) (ha:a<4294967296):bits .and .u32 ((a / 2 ^ k:Nat):Int) 1=if a.testBit k then 1 else 0:=by
 have τ:a / 2 ^ k<4294967296:=aWv (Nat.div_le_self _ _) ha;have h:=ao3 (a / 2 ^ k) 1 τ (by decide);rw [aWw] at h;rw [show (1:Int)=((1:Nat):Int) from rfl,h,Nat.testBit_eq_decide_div_mod_eq];rcases aVJ (a / 2 ^ k) with e | e<;>simp [e]
theorem azy {a b:Nat} (ha:a<4294967296) (Φ:b<4294967296):a ||| b<4294967296:=Nat.or_lt_two_pow (n:=32) ha Φ
theorem MK {k:Nat} (ar:k<32):2 ^ k<4294967296:=Nat.pow_lt_pow_right (a:=2) (by decide) ar
end Go.Proofs.YtlikikpgmmkjbaaGreat.bN
namespace Go.Proofs.YtlikikpgmmkjbaaGreat
open Tryz
end Go.Proofs.YtlikikpgmmkjbaaGreat
namespace Go.Proofs.YtlikikpgmmkjbaaGreat.bN
open Tryz
open Go.RowKit Go.Proofs.YtlikikpgmmkjbaaGreat Go.Proofs.YtlikikpgmmkjbaaGreat.fc
def FP (m x k:Nat):Bool:=diff x m == 0 && !x.testBit k && (x == 0 || m.testBit k)
def MJ (m:Nat):List Nat→Nat→Bool
 | [],_=>true
 | x::xs,k=>FP m x k && MJ m xs (k+1)
def check (m:Nat) (l:List Nat):Int :=
 if m=0∨65536≤m then 1 else if MJ m l 0=false then 4 else if 0≤zD ((size m:Int) / 2+1) l 0 then 4 else 0
end Go.Proofs.YtlikikpgmmkjbaaGreat.bN
namespace Go.Proofs.YtlikikpgmmkjbaaGreat
open Tryz
end Go.Proofs.YtlikikpgmmkjbaaGreat
namespace Go.Proofs.YtlikikpgmmkjbaaGreat.bN
open Tryz
open Go.RowKit Go.Proofs.YtlikikpgmmkjbaaGreat Go.Proofs.YtlikikpgmmkjbaaGreat.fc

def FJ (m:Nat) (k:Int):Bool:=decide (0≤k) && (decide (k<16) && m.testBit k.toNat)
def Dl (k x:Nat):Nat:=diff x (2 ^ k)
def aI0 (l:List Nat):List Value:=l.map fun x:Nat=>Value.int .u32 (x:Int)
def part (k:Nat) (l:List Nat) (i:Nat):List Nat:=(l.take i).map (Dl k)++l.drop i
theorem Yx (k:Nat) (l:List Nat) (i:Nat):(part k l i).length=l.length:=by unfold part;simp;omega
theorem aA5 (k:Nat) (l:List Nat) (i:Nat) (h:i<l.length):(part k l i)[i]? =some l[i]:=by
 unfold part;have e:((l.take i).map (Dl k)).length=i:=by rw [aSz,aRE];omega
 rw [aR0 (by rw [e];exact aRN _),e,aVm,aSJ,Nat.add_zero,aRD h]
theorem Yy (k:Nat) (l:List Nat) (i:Nat) (h:i<l.length):(part k l i).set i (Dl k l[i])=part k l (i+1):=by
 unfold part;have e:((l.take i).map (Dl k)).length=i:=by rw [aSz,aRE];omega
 rw [aUT _ _ (by rw [e];exact aRN _),e,aVm,aR2 h,aR3,aTp h,aTE,aR9];rfl
def uR (l:List Nat) (k:Nat):List Nat:=part k (l.set k 0) 16

end Go.Proofs.YtlikikpgmmkjbaaGreat.bN
namespace Go.Proofs.YtlikikpgmmkjbaaGreat
open Tryz
end Go.Proofs.YtlikikpgmmkjbaaGreat
namespace Go.Proofs.YtlikikpgmmkjbaaGreat.bN
open Tryz
open Go.RowKit Go.Proofs.YtlikikpgmmkjbaaGreat Go.Proofs.YtlikikpgmmkjbaaGreat.fc

def jF (m:Nat) (l:List Nat):Int:=zD ((size m:Int) / 2+1) l 0
def x':Nat→Nat→List Nat→Nat×List Nat
 | 0,m,l=>(m,l)
 | f+1,m,l=>if 0≤jF m l then x' f (diff m (2 ^ (jF m l).toNat)) (uR l (jF m l).toNat) else (m,l)
def q7 (l:List Nat):Nat:=(l.filter (· != 0)).length
theorem aAr (l:List Nat):q7 l≤l.length:=aTN _ _
theorem ajP (t:Int):∀ (l:List Nat) (i:Nat),0≤zD t l i→∃ j,∃ h:j<l.length,zD t l i=((i+j:Nat):Int)∧t≤(size l[j]:Int)
 | [],i,h=>by simp [zD] at h
 | x::xs,i,h=>by
  unfold zD at h ⊢;by_cases hx:t≤(size x:Int)
  ·rw [aRP hx];exact ⟨0,by simp,by simp,hx⟩
  ·rw [aRL hx] at h ⊢;obtain ⟨j,ay,τ,aa⟩:=ajP t xs (i+1) h;exact ⟨j+1,by simp;exact ay,by rw [τ];congr 1;omega,aa⟩
theorem amn {m:Nat} {l:List Nat} (h:0≤jF m l):∃ k:Nat,jF m l=(k:Int)∧∃ ar:k<l.length,(size m:Int) / 2+1≤(size l[k]:Int):=by
 obtain ⟨j,ay,τ,aa⟩:=ajP _ l 0 h;exact ⟨j,by unfold jF;rw [τ];simp,ay,aa⟩
theorem aC2:size 0=0:=by decide
theorem XQ (l:List Nat) (k:Nat) (h:l.length=16):(uR l k).length=16:=by unfold uR;rw [Yx,aRK];exact h
theorem ay6 (l:List Nat) (k:Nat) (h:l.length=16):uR l k=(l.set k 0).map (Dl k):=by
 unfold uR part;have aa:(l.set k 0).length=16:=by rw [aRK];exact h
 rw [aR1 (by omega),aV8 (by omega),aR7]
theorem aAV (k:Nat):Dl k 0=0:=by
 unfold Dl diff;simp
theorem ajw (f:Nat→Nat) (aH:f 0=0):∀ l:List Nat,q7 (l.map f)≤q7 l
 | []=>aRN _
 | x::xs=>by
  have bD:=ajw f aH xs;unfold q7 at *
  rw [aSs,aSP,aSP];by_cases hx:x=0
  ·subst hx;rw [aH];simpa using bD
  ·rw [aRP (show (x != 0)=true by simp [hx])];split
   ·rw [aRG,aRG];exact Nat.succ_le_succ bD
   ·rw [aRG];exact aWE bD
theorem ajx:∀ (l:List Nat) (k:Nat) (ar:k<l.length),l[k]≠0→q7 (l.set k 0)+1=q7 l
 | x::xs,0,_,h=>by
  unfold q7;simp at h;simp [h]
 | x::xs,k+1,ar,h=>by
  have bD:=ajx xs k (by simpa using ar) (by simpa using h);unfold q7 at *
  simp only [aTF,aSP];split
  ·simp;omega
  ·exact bD
theorem ay8 {m:Nat} {l:List Nat} (az:l.length=16) {k:Nat} (ar:k<l.length) (h:(size m:Int) / 2+1≤(size l[k]:Int)):q7 (uR l k)<q7 l:=by
 have aH:l[k]≠0:=by
  intro aH;rw [aH,aC2] at h;omega
 have τ:=ajx l k ar aH;rw [ay6 l k az];have aa:=ajw (Dl k) (aAV k) (l.set k 0);omega
end Go.Proofs.YtlikikpgmmkjbaaGreat.bN
namespace Go.Proofs.YtlikikpgmmkjbaaGreat
open Tryz
end Go.Proofs.YtlikikpgmmkjbaaGreat
namespace Go.Proofs.YtlikikpgmmkjbaaGreat.bN
open Tryz
open Go.RowKit Go.Proofs.YtlikikpgmmkjbaaGreat Go.Proofs.YtlikikpgmmkjbaaGreat.fc
def Part (a b:Nat):Prop:=∀ i,a.testBit i=true→b.testBit i=true
structure anB (m:Nat) (l:List Nat):Prop where
 m16:m<65536
 len:l.length=16
 lt:∀ k,l.getD k 0<4294967296
 sub:∀ k,Part (l.getD k 0) m
 self:∀ k,(l.getD k 0).testBit k=false
 mem:∀ k,l.getD k 0≠0→m.testBit k=true
theorem ajI (m:Nat):∀ (l:List Nat) (k:Nat),MJ m l k=true↔∀ j,j<l.length→FP m (l.getD j 0) (k+j)=true
 | [],k=>by simp [MJ]
 | x::xs,k=>by
  rw [MJ,aRI,ajI m xs (k+1)];constructor
  ·rintro ⟨τ,aa⟩ j ay
   match j with
   | 0=>exact τ
   | j+1 =>
    have:=aa j (by simpa using ay);rw [show k+(j+1)=k+1+j from by omega];exact this
  ·intro h;refine ⟨h 0 (by simp),fun j ay=> ?_⟩;have:=h (j+1) (by simpa using ay);rw [show k+(j+1)=k+1+j from by omega] at this;exact this
structure aHC (m:Nat) (l:List Nat) (r:Nat×List Nat):Prop where
 jM:anB r.1 r.2
 some_:r.1≠0
 jF:jF r.1 r.2<0
 sub:Part r.1 m
 aPq:∀ j,Part (r.2.getD j 0) (l.getD j 0)
 gone:∀ j,m.testBit j=true→r.1.testBit j=false→size r.1<2 * size (l.getD j 0)
end Go.Proofs.YtlikikpgmmkjbaaGreat.bN
namespace Go.Proofs.YtlikikpgmmkjbaaGreat
open Tryz
end Go.Proofs.YtlikikpgmmkjbaaGreat
namespace Go.Proofs.YtlikikpgmmkjbaaGreat.kC
open Tryz
open Go.Proofs.YtlikikpgmmkjbaaGreat.fc

def aIA (j:Nat):UInt8:=1 <<<UInt8.ofNat j
def ai5 (b:BitVec 32):Nat→BitVec 32
 | 0=>0#32
 | k+1=>ai5 b k ^^^ (if b.getLsbD k then 1#32 <<<k else 0#32)
end Go.Proofs.YtlikikpgmmkjbaaGreat.kC
namespace Go.Proofs.YtlikikpgmmkjbaaGreat
open Tryz
end Go.Proofs.YtlikikpgmmkjbaaGreat
namespace Go.Proofs.YtlikikpgmmkjbaaGreat.kC
open Tryz
open Go.RowKit Go.Proofs.YtlikikpgmmkjbaaGreat.fc

def cells (l:List UInt8):List Value:=l.map fun b=>Value.int .u8 (b.toNat:Int)
structure Inv (T:ByteArray) (b:BitVec 32) (p N k:Nat) (t:List UInt8):Prop where
 len:t.length=N
 low:∀ j,j<k→b.getLsbD j=true→p+j<8 * N
 sum:fold (~~~0#32) t=fold (~~~0#32) T.data.toList ^^^ steps (8 * N - p) (ai5 b k)
end Go.Proofs.YtlikikpgmmkjbaaGreat.kC
namespace Go.Proofs.YtlikikpgmmkjbaaGreat
open Tryz
section
def Tj (aC:Nat) (w:World) (A:Option Addr) (c:Nat) (t:List UInt8):Prop :=
 ∃ (g:Nat) (R:List UInt8) (L:Nat),A=some ⟨g,0,none⟩∧aC≤g∧aR w g (kC.cells (t++R)) 5 (L,L+1)∧t.length≤L∧t.length≤c∧c≤9223372036854775807∧t.length≤140737488355328
section
variable {aC:Nat} {w w':World} {A:Option Addr} {c:Nat} {t:List UInt8} {S:List Nat}
theorem Tj.later (h:Tj aC w A c t) (x:Ext w w'):Tj aC w' A c t:=by
 obtain ⟨g,R,L,rfl,bs,aX,hr⟩:=h;exact ⟨g,R,L,Z,bs,aX.later x,hr⟩
end
section
variable {P:Program} {n:Nat} {E cP:List (Nat×Value)} {a:Act} {w w' w0 aP:World} {Q:Exit→Act→World→Prop} {ops:Array Oper} {v:Value}
variable {d:Option Nat} {ty:TypeId} {pos:String} {af:Array Edge} {g:Option (Nat×Bool)} {x y z:Operand} {t u:TypeId} {rest:List Oper} {i j:Int} {k k':IntKind}
theorem apC {m:Nat} (hx:ev E x=some (.int k i)) (aL:ev E y=some (.int k' (m:Int))) (hm:m≤k.bits) (aH:0≤i):cS P E ⟨d, .binOp .shr t x y u,ty,pos,af,g⟩ w (.int k (i / 2 ^ m)) w:=pa hx aL (by rfl:binOp .shr t (.int k i) (.int k' (m:Int))=Op.shift .shr k i k' (m:Int)) (by
 unfold Op.shift;rw [aRL (by omega)];show (pure (Value.int k (i.fdiv (2 ^ min (m:Int).toNat k.bits))):Sem Value).run _ _=_;rw [aSy,aTq hm,Int.fdiv_eq_ediv_of_nonneg _ (by exact Int.le_of_lt (Int.pow_pos (by decide)))];rfl)
theorem apB {m:Nat} (hx:ev E x=some (.int k 1)) (aL:ev E y=some (.int k' j)) (ay:j=(m:Int)) (hm:m≤k.bits):cS P E ⟨d, .binOp .shl t x y u,ty,pos,af,g⟩ w (.int k (k.wrap (2 ^ m))) w:=pa hx aL (by rfl:binOp .shl t (.int k 1) (.int k' j)=Op.shift .shl k 1 k' j) (by
 subst ay;unfold Op.shift;rw [aRL (by omega)];show (pure (Value.int k (k.wrap (1 * 2 ^ min (m:Int).toNat k.bits))):Sem Value).run _ _=_;rw [aSy,aTq hm,Int.one_mul];rfl)
theorem apl (hx:ev E x=some (.int k i)) (aL:ev E y=some (.int k j)):cS P E ⟨d, .binOp .and t x y u,ty,pos,af,g⟩ w (.int k (bits .and k i j)) w:=pa hx aL (binOp_and t k i j) rfl
end
end
end Go.Proofs.YtlikikpgmmkjbaaGreat
