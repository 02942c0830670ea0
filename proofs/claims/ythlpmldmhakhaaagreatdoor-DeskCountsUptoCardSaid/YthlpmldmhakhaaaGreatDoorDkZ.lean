import Derived.Test.YthlpmldmhakhaaaGreatDoorDkB
set_option linter.unusedVariables false
set_option linter.unusedSimpArgs false
set_option maxRecDepth 100000
set_option maxHeartbeats 4000000
open Go.RowKit
namespace Go.Proofs.YthlpmldmhakhaaaGreatDoor
open Tryz
abbrev aPS:=@List.cons_ne_nil
abbrev aPV:=@List.drop_eq_nil_of_le
abbrev aQV:=@List.isSuffixOf_iff_suffix
abbrev aQ4:=@List.getElem_append_left
abbrev aRj:=@Go.Lib.count_hit
abbrev aRq:=@List.length_pos_iff
section
variable {b:UInt8}
theorem acB {l:List UInt8} (h:0<l.count b):∃ i:Nat,Lib.index l [b]=i:=by
 rcases Lib.index_spec l [b] with ⟨κ,bk⟩ | ⟨i,h,_⟩
 ·exfalso;obtain ⟨j,aw,e⟩:=aOO (aRw.1 h);have:=bk j (by omega);unfold Lib.occAt at this;rw [aNX aw,e] at this;simp [List.isPrefixOf] at this
 ·exact ⟨i,h⟩
theorem Rv (b:UInt8):∀ l:List UInt8,Lib.count l [b]=l.count b
 | []=>Lib.count_miss ((wF b []).1 rfl)
 | x::l=>by
  have bu:=Rv b l;by_cases hx:x=b
  ·subst hx;have:=aRj (s:=x::l) (sub:= [x]) (i:=0) (by simp) (by rw [(wF x l).2.2];rfl);rw [this,aQc,aPy];simpa using bu
  ·rw [aO0 hx];rcases aOU (l.count b) with aC | aC
   ·rw [aC];exact Lib.count_miss ((wF b (x::l)).1 (by rw [aO0 hx,aC]))
   ·obtain ⟨i,ak⟩:=acB aC;have κ:=aRj (s:=x::l) (sub:= [b]) (i:=i+1) (by simp) ((wF b l).2.1 x hx i ak);have τ:=aRj (s:=l) (sub:= [b]) (i:=i) (by simp) ak;rw [κ,← bu,τ];simp
def cO (b:UInt8) (s:ByteArray):List ByteArray:=(fR b s.data.toList).map az
theorem Iw (s:ByteArray):az s.data.toList=s:=by unfold az;simp
theorem azD (b:UInt8) (s:ByteArray):Lib.splitB (az [b]) 0 (Lib.countB s (az [b])) s=cO b s:=by
 have h:=Lib.splitB_data (az [b]) 0 (Lib.countB s (az [b])) s;have hc:Lib.countB s (az [b])=s.data.toList.count b:=Rv b s.data.toList;rw [hc] at h ⊢;have e:(az [b]).data.toList= [b]:=rfl;rw [e,Vu] at h;unfold cO;rw [← h,aPz]
 conv=>lhs;rw [← List.map_id (Lib.splitB (az [b]) 0 (s.data.toList.count b) s)]
 exact aQj λ x _=>(Iw x).symm
theorem Pg (b:UInt8):∀ (l x:List UInt8),x∈fR b l→x.length≤l.length
 | [],x,h=>by rw [agD] at h;rw [aMZ.1 h];exact aNk _
 | y::l,x,h=>by
  by_cases aH:y=b
  ·subst aH;rw [AG] at h;rcases aNg.1 h with rfl | h
   ·exact aNQ _
   ·have:=Pg y l x h;rw [aM1];omega
  ·obtain ⟨p,t,e⟩:=AH b l;rw [xj aH e] at h;rcases aNg.1 h with rfl | h
   ·have:=Pg b l p (by rw [e];exact aNo);simp only [aM1];omega
   ·have:=Pg b l x (by rw [e];exact aNe _ h);rw [aM1];omega
theorem Vs (b:UInt8):∀ l:List UInt8,(fR b l).length=l.count b+1
 | []=>rfl
 | x::l=>by
  by_cases hx:x=b
  ·subst hx;rw [AG,aM1,Vs x l,aQc]
  ·obtain ⟨p,t,e⟩:=AH b l;have:=Vs b l;rw [xj hx e,aO0 hx,← this,e];rfl
theorem O3 (b:UInt8) (s:ByteArray):(cO b s).length=s.data.toList.count b+1:=by unfold cO;rw [aNI,Vs]
theorem Kz (b:UInt8) (s:ByteArray):(cO b s).length≤s.size+1:=by
 rw [O3,aN3];have:=List.count_le_length (a:=b) (l:=s.data.toList);omega
theorem KA {s x:ByteArray} (h:x∈cO b s):x.size≤s.size:=by
 unfold cO at h;obtain ⟨l,ay,rfl⟩:=aNn.1 h;rw [pd,aN3];exact Pg b _ l ay
theorem X9 {w:World}:∀ l:List ByteArray,(∀ x∈l,x.size≤140737488351232)→dt (λ es a=>e_.has w es a) (l.map λ b=> [Value.string b]) l
 | [],_=>trivial
 | x::l,h=>⟨⟨rfl,h x aNo⟩,X9 l λ y aH=>h y (aNe _ aH)⟩
theorem aaz:∀ l:List ByteArray,(l.map λ b=> [Value.string b]).flatten=l.map Value.string
 | []=>rfl
 | x::l=>by rw [aNF,aNF,aNW,aaz l];rfl
theorem Vv (s:ByteArray) (b:UInt8) (w:World) (hs:s.size≤4000000000) (ar:k7 w):
  Calls prog 8 #[.string s, .string (az [b])] w λ e w'=>∃ B,e= .returned (.slice (some ⟨B,0,none⟩) (cO b s).length (cO b s).length)∧w.heap.size≤B∧B<w'.heap.size∧e_.aQ 16 w' (some ⟨B,0,none⟩) (cO b s).length (cO b s)∧Ext w w':=by
 obtain ⟨m,hm⟩:=ar.m;refine (strings_Split s (az [b]) m w (by omega) hm (aNk _)).mono ?_;rintro e w' ⟨rfl,rfl⟩;have hc:Lib.countB s (az [b])+1=(cO b s).length:=by rw [O3,← Rv];rfl
 rw [azD,hc];have aS:=aO.new w ((cO b s).map Value.string) 9 (0,0);have ay:=Kz b s;refine ⟨w.heap.size,Z,aNk _,aS.lt, ?_,(aNH _ w).alloc (aNk _) _⟩;exact aO.Ai aS ((cO b s).map λ b=> [Value.string b]) (aaz _) (X9 _ λ x hx=>by have:=KA hx;omega) (by omega) (by omega)
end
section
variable {w w':World} {aA c j k:Nat} {A:Option Addr} {l ls ws:List ByteArray} {x:ByteArray}
structure k9 (w:World) (aA:Nat) (A:Option Addr) (c:Nat) (l:List ByteArray):Prop where
 has:e_.aQ 16 w A c l
 lt:∀ q∈Φ.ab A,aA≤q∧q<w.heap.size
theorem k9.later (h:k9 w aA A c l) (x:Ext w w'):k9 w' aA A c l:=⟨h.has.keep x,λ q I=>⟨(h.lt q I).1,aOE (h.lt q I).2 x.size⟩⟩
theorem k9.mod {S:List Nat} (h:k9 w aA A c l) (m:Mod S w w') (hd:∀ x∈Φ.ab A,x∉S):k9 w' aA A c l :=
 ⟨h.has.kq pF.1 m λ _ q I hs=>hd q I hs,λ q I=>⟨(h.lt q I).1,aOE (h.lt q I).2 m.size⟩⟩
theorem k9.of {B:Nat} (h:e_.aQ 16 w (some ⟨B,0,none⟩) c l) (κ:aA≤B) (τ:B<w.heap.size):k9 w aA (some ⟨B,0,none⟩) c l:=⟨h,λ q I=>by rw [aMZ.1 I];exact ⟨κ,τ⟩⟩
theorem k9.pre (h:k9 w aA A c l) (k:Nat):k9 w aA (KB A k) c (l.take k):=⟨h.has.pre k,h.lt⟩
theorem Ext.Ri {aN cb:World} {D:Nat} (z:Ext w aN) (x:Below D aN cb) (h:w.heap.size≤D):Ext w cb :=
 ⟨x.os.trans z.os,x.tape.trans z.tape,x.output.trans z.output,aNm z.size x.size,λ k aj=>(x.block k (by omega)).trans (z.block k aj)⟩
def qu (l:List ByteArray):Nat:=((l.length:Int) - 1).toNat
def eF (s:ByteArray):List ByteArray:=if (cO 10 s).getD (qu (cO 10 s)) ByteArray.empty=az [] then (cO 10 s).take (qu (cO 10 s)) else cO 10 s
theorem avl (s:ByteArray):(eF s).length≤s.size+1:=by
 have:=Kz 10 s;unfold eF;split
 ·rw [aM9];omega
 ·exact this
theorem avm {s:ByteArray} (h:x∈eF s):x.size≤s.size:=by
 unfold eF at h;split at h
 ·exact KA (aPr h)
 ·exact KA h
def Ap (x:ByteArray):Bool:= !decide (x=az [])
def eT (l:ByteArray):List ByteArray:=(cO 32 l).filter Ap
theorem aBn {l:ByteArray} (h:x∈eT l):x.size≤l.size:=KA (aOk.1 h).1
theorem ahH {l:ByteArray} (h:x∈eT l):0<x.size:=by
 have:=(aOk.1 h).2;unfold Ap at this;rcases aOU x.size with aC | aC
 ·exfalso;have e:x=az []:=by
   rw [aN3] at aC;have:=aNv aC;rw [← Iw x,this]
  rw [e] at this;simp at this
 ·exact aC
theorem apR {p:ByteArray→Bool} (h:j<l.length) (hp:p (l.getD j ByteArray.empty)=true):(l.take (j+1)).filter p=(l.take j).filter p++ [l.getD j ByteArray.empty]:=by
 rw [aNs h,aN0];rw [aM0,aM3 h] at hp ⊢;have hp:p l[j]=true:=hp;congr 1;show List.filter p [l[j]]= [l[j]];simp [hp]
theorem apQ {p:ByteArray→Bool} (h:j<l.length) (hp:p (l.getD j ByteArray.empty)=false):(l.take (j+1)).filter p=(l.take j).filter p:=by
 rw [aNs h,aN0];rw [aM0,aM3 h] at hp;have hp:p l[j]=false:=hp;simp [hp]
def iC (ws:List ByteArray):Bool:=decide (0<ws.length) && decide ¬ (ws.getD 0 ByteArray.empty).data.toList.getD 0 0=35
noncomputable def kJ:List ByteArray→bP→List UInt8
 | [],_=> []
 | l::r,T=>if iC (eT l)=true then (T.line (eT l)).1.data.toList++10::kJ r (T.line (eT l)).2 else kJ r T
theorem axm {T:bP} (h:k<ls.length) (bk:iC (eT (ls.getD k ByteArray.empty))=true):kJ (ls.drop k) T=(T.line (eT (ls.getD k ByteArray.empty))).1.data.toList++10::kJ (ls.drop (k+1)) (T.line (eT (ls.getD k ByteArray.empty))).2:=by
 rw [aNX h];rw [aM0,aM3 h] at bk ⊢;show (if _ then _ else _)=_;exact aNd bk
theorem axl {T:bP} (h:k<ls.length) (bk:iC (eT (ls.getD k ByteArray.empty))=false):kJ (ls.drop k) T=kJ (ls.drop (k+1)) T:=by
 rw [aNX h];rw [aM0,aM3 h] at bk;show (if _ then _ else _)=_;exact aM4 (by rw [show iC (eT ls[k])=false from bk];decide)
def qJ:bP:=I5 ⟨8,4,List.replicate 32 0⟩
noncomputable def fY (s:ByteArray):ByteArray:=if 65536<s.size∨300<(eF s).length then az [101,114,114,111,114,32,50,10] else az (kJ (eF s) qJ)
theorem ag0 {x:UInt8} (h:(x.toNat:Int)=35):x=35:=UInt8.toNat_inj.1 (by have:(35:UInt8).toNat=35:=rfl;omega)
theorem afn (h:0<ws.length) (τ:¬ (ws.getD 0 ByteArray.empty).data.toList.getD 0 0=35):iC ws=true:=by unfold iC;rw [aNp h,aNp τ];rfl
theorem afl (h:¬ 0<ws.length):iC ws=false:=by unfold iC;rw [aNu h];rfl
theorem afm (τ:(ws.getD 0 ByteArray.empty).data.toList.getD 0 0=35):iC ws=false:=by unfold iC;rw [aNu (p:=¬ _) (λ h=>h τ)];exact aQe _
theorem axk {T:bP} {out:List UInt8} {a:List UInt8} (h:kJ ls T=out++a) {x b:List UInt8} (e:a=x++10::b):kJ ls T=(out++(x++ [10]))++b:=by rw [h,e];simp
theorem avg (x:ByteArray) (out:List UInt8):Lib.byteCells out++Lib.strCells (x++az [10])=Lib.byteCells (out++(x.data.toList++ [10])):=by
 have e:Lib.strCells (x++az [10])=Lib.byteCells (x.data.toList++ [10]):=by
  rw [Lib.strCells_eq];congr 1
 rw [e,← Lib.byteCells_append]
end
theorem ajh:dN prog e_ 57 9 16:=dN.jz (z:= .string .empty) (k:=1) underlying57 DW rfl rfl (by decide) (λ j u h=>Er j u h)
theorem alM (b:Nat) (l:List UInt8) (w:World) (h:iI w b (Lib.byteCells l)):Calls prog 12 #[.pointer (a_ b)] w λ e w'=>e= .returned (.string (az l))∧Below b w w'∧True :=
 (Builder_String_any b b l w h (aRb h.lt)).mono λ e w' k=>⟨k.1,k.2,trivial⟩
theorem Pb (text:ByteArray) (w:World) (hh:text.size≤2000000) (vY:k7 w):
  Calls prog 9 #[.string text] w (λ e w'=>e= .returned (.string (fY text))∧(fY text).size≤700000000∧Ext w w'):=by
 have ar:=fu.of vY;refine cx (n:=72) func9 Z Z Z ?_;refine aF<|aT Z<|aK Z<|ca RX Z Z ((Vv text 10 _ (by omega) ar.dK).mono ?_);rintro e dk ⟨pU,rfl,ry,Gq,gh,gH⟩;refine cF ?_;have r_:k9 dk w.heap.size (a_ pU) (cO 10 text).length (cO 10 text):=k9.of gh ry Gq;have JL:=Kz 10 text;have wv:=O3 10 text;have aGG:qu (cO 10 text)≤(cO 10 text).length:=by unfold qu;omega
 have kU:∀ q∈Φ.ab (a_ pU),q<dk.heap.size:=λ q I=>(r_.lt q I).2;refine aT Z<| ?_;refine KK (λ cu aV=>∃ ls:List ByteArray,∃ r6:Option Addr,∃ c3:Nat,cu= [(0, .string text),(2, .string (az [])),(3, .slice r6 ls.length c3)]∧Ext w aV∧fu w.heap.size aV∧k9 aV w.heap.size r6 c3 (ls)∧(ls=eF text)∧(∀ q∈Φ.ab r6,q<dk.heap.size)∧(dk.heap.size≤aV.heap.size)) ?_ ?_
 ·refine aK Z<|vm Z<|aa (dr underlying26 Z)<|aa (iM Z Z fP)<|aa (bX ((((((cO 10 text).length:Nat):Int)) - 1).toNat) underlying26 zX Z Z (r_.has.bw (aZ ((((((cO 10 text).length:Nat):Int)) - 1).toNat))) (by omega) (by omega))<|aa (aB Z (Φ.aQ.dj DI (r_.has.cg (aZ ((((((cO 10 text).length:Nat):Int)) - 1).toNat))) (cj (l:=cO 10 text) (u:=ByteArray.empty) (j:=qu (cO 10 text)) (by unfold qu;omega)) Z Dh))<|aa (kj underlying9 Z Z)<|aJ<| ?_;refine c1 Z (λ oC=> ?_) (λ oC=> ?_)
  ·simp only [aNG,aNO,aM8,aM7] at oC;refine rg<|vm Z<|vm Z<|aa (dr underlying26 Z)<|aa (iM Z Z fP)<|aa (Vf ((qu (cO 10 text))) ((cO 10 text).take ((qu (cO 10 text)))).length underlying26 zX Z Z (by unfold qu;omega) (by unfold qu;omega) (by rw [aM9];omega))<|va Z<|nl<| ?_;have zW:eF text=(cO 10 text).take (qu (cO 10 text)):=aNd oC;have ar:=ar.later gH;exact my _ ⟨((cO 10 text).take (qu (cO 10 text))),(KB (a_ pU) (qu (cO 10 text))),(cO 10 text).length,Z,gH,ar,(r_.pre (qu (cO 10 text))),zW.symm,kU,by omega⟩ (ih Z)
  ·simp only [aNG,aNO,aM8,aM7] at oC;refine fZ<| ?_;have zW:eF text=cO 10 text:=aM4 oC;have ar:=ar.later gH;exact my _ ⟨(cO 10 text),(a_ pU),(cO 10 text).length,Z,gH,ar,r_,zW.symm,kU,by omega⟩ (ih Z)
 rintro aDy uG ⟨ls,r6,c3,rfl,jh,ar,lG,DM,aqK,jb⟩;have uy:=bZ lG.lt;have ass:∀ x∈ls,x.size≤text.size:=λ x hx=>avm (by rw [← DM];exact hx);refine aI<|aK Z<|aa (B5 underlying9 Z (by omega))<|aa (hO Z Z)<|vm Z<|fS Z Z<|b9 Z (λ hc=>dr underlying26 (gt hc Z))<|b9 Z (λ hc=>hO (gt hc Z) Z)<|aa (gv Z Z Z Z)<|aJ<| ?_;refine c1 Z (λ Dv=> ?_) (λ Dv=> ?_)
 ·simp only [aNG,aNO,aM8,aM7] at Dv;refine aF<|bH Z<|cU<|cZ Z Z<| ?_;exact ⟨by unfold fY;rw [aNd (by rw [← DM];omega)];rfl,(by unfold fY;rw [aNd (by rw [← DM];omega)];decide),jh⟩
 ·simp only [aNG,aNO,aM8,aM7] at Dv;refine bE<|aF<|dn ao6 Z λ y3 p3 gp auj Be=> ?_;have mJ:=J jh gp;have aKl:=Be.lt;refine aJ<|aF<|D4 (R:=bz) (by_:=8) (B:=p3+1) (c:=32) (zv:=(γ 0)) (q:=0) Φ.rm underlying46 wG Z Z (λ j u h=>AE j u h) (λ _=>⟨Z,cI.2 (by decide)⟩) Z Z Z (by omega) (by omega) (by omega) λ rW vM eC aul C6=> ?_;have:=eC.size;have hZ:=J mJ eC;refine aa (v:= .agg #[γ 8,γ 4, .slice (a_ vM) 32 32]) (hC Z)<| ?_;have Be:=Be.later eC;refine ca aaa Z Z ((aaH p3 _ _ _ _ _ _ _ _ _ _ (⟨8,4,List.replicate 32 0⟩:av) _ _ _ Be C6 (by decide) ⟨cI.2 (by decide),cI.2 (by decide)⟩).mono ?_);rintro e AP ⟨rfl,fx,Ug,f8,m8⟩;refine cF ?_;have:=m8.size;have nw:=Ext.mod hZ m8 bF;have aX:gQ AP p3 fx qJ:=Ug;have aa1:∀ q∈Φ.ab r6,q<p3:=λ q I=>by have:=aqK q I;omega
  refine aJ<|aF<|dn ao7 Z λ AR nJ lZ aeb zj=> ?_;have mK:=J nw lZ;refine aJ<|aI<|aK Z<|aa (dr underlying26 Z)<|vm Z<|aJ<|bT<| ?_;have ar:=((ar.later (J gp eC)).mod m8 (λ q I=>by have:=I;simp only [aMZ] at this;omega)).later lZ;have lG:=((lG.later (J gp eC)).mod m8 (bl uy)).later lZ;have aX:=aX.later lZ;refine gi (λ cJ cu aV=>∃ k:Nat,∃ h:gP,∃ T:bP,∃ out:List UInt8,cu= [(2, .string (az [])),(4, .pointer (a_ p3)),(5, .pointer (a_ nJ)),(36, .slice r6 ls.length c3),(37,γ (ls.length:Int)),(38,γ (k:Int))]∧cJ=ls.length - k∧Ext w aV∧fu w.heap.size aV∧k9 aV w.heap.size r6 c3 (ls)∧gQ aV p3 h T∧iI aV nJ (Lib.byteCells out)∧(k≤ls.length)∧(kJ ls qJ=out++kJ (ls.drop k) T)∧(out.length≤k * 2100001)) _ _ ⟨0,fx,qJ, [],Z,Z,mK,ar,lG,aX,(iI.new zj),by omega,by simp,by simp⟩ (eS Z Z Z) ?_;rintro lr aDK s4 ⟨k,h,T,out,rfl,rfl,k4,ar,lG,aX,aS,aj,bk,Gt⟩;have Pv:=bZ lG.lt;have aK1:=aS.lt;refine aF<|fB Z Z<|aJ<|aI<| ?_;refine fH Z (λ Af=> ?_) (λ Af=> ?_)
  ·refine bE<|aI<|bT<|aF<|aa (bX k underlying26 zX Z Z (lG.has.bw (aZ k)) Z (by omega))<|aa (aB Z (Φ.aQ.dj DI (lG.has.cg (aZ k)) (cj (l:=ls) (u:=ByteArray.empty) (by omega)) Z Dh))<|aT Z<|aF<|aT Z<|aI<|aK Z<| ?_;have aGL:(ls.getD k ByteArray.empty).size≤text.size:=ass _ (mr (by omega));refine ca RX Z Z ((Vv (ls.getD k ByteArray.empty) 32 _ (by omega) ar.dK).mono ?_);rintro e xt ⟨l8,rfl,nP,TM,iN,ix⟩;refine cF ?_;have:=ix.size;have nx:=J k4 ix;have xU:k9 xt s4.heap.size (a_ l8) (cO 32 (ls.getD k ByteArray.empty)).length (cO 32 (ls.getD k ByteArray.empty)):=k9.of iN nP TM;have KW:=bZ xU.lt;have acf:=Kz 32 (ls.getD k ByteArray.empty);have Gs:=O3 32 (ls.getD k ByteArray.empty);refine aa (dr underlying26 Z)<|vm Z<|aJ<|bT<| ?_;have aX:=aX.later ix;have aS:=aS.later ix;have aqV:=aX.lt;have ar:=ar.later ix;have lG:=lG.later ix;refine gi (λ cJ cu aV=>∃ j:Nat,∃ ct:Option Addr,∃ co:Nat,∃ o:List ByteArray,cu= [(2, .string (az [])),(4, .pointer (a_ p3)),(5, .pointer (a_ nJ)),(7, .string (ls.getD k ByteArray.empty)),(8, .slice ct o.length co),(36, .slice r6 ls.length c3),(37,γ (ls.length:Int)),(38,γ (k:Int)),(39, .bool (decide ((k:Int)<(ls.length:Int)))),(40, .pointer (some ⟨et r6,jR r6+k * 1,none⟩)),(41, .string (ls.getD k ByteArray.empty)),(42, .string (ls.getD k ByteArray.empty)),(43, .slice (a_ l8) ((cO 32 (ls.getD k ByteArray.empty)).length) ((cO 32 (ls.getD k ByteArray.empty)).length)),(44,γ ((((cO 32 (ls.getD k ByteArray.empty)).length:Nat):Int))),(45,γ (j:Int))]∧cJ=(cO 32 (ls.getD k ByteArray.empty)).length - j∧Ext w aV∧fu w.heap.size aV∧k9 aV w.heap.size r6 c3 (ls)∧gQ aV p3 h T∧iI aV nJ (Lib.byteCells out)∧k9 aV s4.heap.size (a_ l8) (cO 32 (ls.getD k ByteArray.empty)).length (cO 32 (ls.getD k ByteArray.empty))∧e_.aM 9 16 aV xt.heap.size (Φ.ab ct) ct co (o)∧(j≤(cO 32 (ls.getD k ByteArray.empty)).length)∧(o=((cO 32 (ls.getD k ByteArray.empty)).take j).filter Ap)∧(xt.heap.size≤aV.heap.size)∧(∀ q∈Φ.ab ct,q∈Φ.ab r6→False)∧(∀ q∈Φ.ab ct,q∈Φ.ab (a_ l8)→False)) _ _ ⟨0,none,0, [],Z,Z,nx,ar,lG,aX,aS,xU,(Φ.aM.nil _),by omega,by simp,by omega,(λ q I af=>by (simp [Φ.ab] at I)),(λ q I af=>by (simp [Φ.ab] at I))⟩ (eS Z Z Z) ?_;rintro gj ajt EF ⟨j,ct,co,o,rfl,rfl,l7,ar,lG,aX,aS,xU,bW,aw,jt,acu,zQ,zR⟩;have aAy:=bZ lG.lt;have VK:=bZ xU.lt;have aG1:o.length≤j:=by rw [jt];exact aNm (aOw _ _) (aO8 _ _)
   refine aF<|fB Z Z<|aJ<|aI<| ?_;refine fH Z (λ ara=> ?_) (λ ara=> ?_)
   ·refine bE<|aI<|bT<|aF<|aa (bX j underlying26 zX Z Z (xU.has.bw (aZ j)) Z (by omega))<|aa (aB Z (Φ.aQ.dj DI (xU.has.cg (aZ j)) (cj (l:=cO 32 (ls.getD k ByteArray.empty)) (u:=ByteArray.empty) (by omega)) Z Dh))<|aT Z<|aK Z<|aa (Fo underlying9 Z Z)<|aJ<| ?_;refine c1 Z (λ Td=> ?_) (λ Td=> ?_)
    ·refine rg<|vm Z<|vm Z<|b_ (e:= 9) (cs:= [.string ((cO 32 (ls.getD k ByteArray.empty)).getD j ByteArray.empty)]) Z (λ _=>by kernel_rfl) Z λ EG aET pQ aus Xw=> ?_;have pR:=J l7 pQ;have ayg:=Xw.lt;have bW:=bW.later pQ;refine ap ajh pF bW (aO.fy (R:=e_) (by_:=16) (q:=(cO 32 (ls.getD k ByteArray.empty)).getD j ByteArray.empty) Xw ⟨Z,(by have:=KA (mr (l:=cO 32 (ls.getD k ByteArray.empty)) (d:=ByteArray.empty) (k:=j) (by omega));omega)⟩ (by decide)) Z Z (by simp only [aM1,aM5];omega) (by simp only [aM1,aM5];omega) (by omega) Z λ PI E2 IB gW Fg F1 awA=> ?_;have:=gW.size;have xJ:=Ext.mod pR gW (λ q I=>aNm (by omega) (bW.lt q I).1);refine va Z<|nl<|cl<|eR Z Z Z<| ?_;have ar:=(ar.later pQ).mod gW (λ q I=>by have:=(λ q I=>aNm (by omega) (bW.lt q I).1) q I;omega);have lG:=(lG.later pQ).mod gW (gg zQ);have aX:=(aX.later pQ).mod gW (λ q I=>by have:=(bW.lt q I).1;exact ⟨by omega,λ hf=>by have:=(aqV q hf).2;omega⟩);have aS:=(aS.later pQ).mod gW (λ q I=>⟨by have:=(bW.lt q I).1;omega,λ bk=>(Em bW q I).ne bk rfl rfl⟩);have xU:=(xU.later pQ).mod gW (gg zR);exact eX ⟨j+1,E2,IB,o++ [(cO 32 (ls.getD k ByteArray.empty)).getD j ByteArray.empty],Z,Z,xJ,ar,lG,aX,aS,xU,Fg,by omega,by rw [apR (p:=Ap) (by omega) (by unfold Ap;exact Td),← jt],by omega,(λ q I af=>by (exact aNq (F1 q I) (λ adT=>by (exact zQ q adT af)) (λ adT=>by (have:=aAy q af;have:=uy q af;omega)))),(oT F1 zR VK)⟩
    ·refine fZ<|cl<|eR Z Z Z<| ?_;exact eX ⟨j+1,ct,co,o,Z,Z,l7,ar,lG,aX,aS,xU,bW,by omega,by rw [apQ (p:=Ap) (by omega) (by unfold Ap;exact Td),← jt],by omega,zQ,zR⟩
   ·have hw:o=eT (ls.getD k ByteArray.empty):=by rw [jt,aNr (by omega)];rfl
    refine ej<|ei<|eU<|eh<|br<|aK Z<|aa (dr underlying57 Z)<|aa (hO Z Z)<|vm Z<|fS Z Z<|b9 Z (λ hc=>bX 0 underlying57 zX (gt hc Z) Z (bW.has.bw (aZ 0 (by (try simp only [cq] at hc);omega))) Z (by (try simp only [cq] at hc);omega))<|b9 Z (λ hc=>aB (gt hc Z) (Φ.aQ.dj DI (bW.has.cg (aZ 0 (by (try simp only [cq] at hc);omega))) (cj (l:=o) (u:=ByteArray.empty) (j:=0) (by (try simp only [cq] at hc);omega)) Z Dh))<|b9 Z (λ hc=>KI underlying9 (gt hc Z) Z (by omega) (Pn (s:=o.getD 0 ByteArray.empty) (k:=0) (ahH (l:=ls.getD k ByteArray.empty) (by rw [← hw];exact mr (by (try simp only [cq] at hc);omega)))))<|b9 Z (λ hc=>bne (gt hc Z) Z)<|aa (eZ Z Z Z Z)<|aJ<| ?_;refine c1 Z (λ Jr=> ?_) (λ Jr=> ?_)
    ·simp only [cq] at Jr;have dp:iC o=true:=afn (by omega) (λ e=>Jr.2 (by rw [e];rfl));refine rg<|vm Z<|ca ao8 Z Z ((avf p3 w.heap.size h T _ _ o _ aX bW.has (λ q I=>(bW.lt q I).2) (λ x hx=>by have:=aBn (show x∈eT _ by rw [← hw];exact hx);omega) ar (by omega)).mono ?_);rintro e PN ⟨rfl,aEe,NR⟩;refine cF ?_;have Ah:=aX.alC aS;obtain ⟨pk,GG,f9,m9⟩:=NR;have SB:∀ q∈p3::h.cA,p3≤q:=λ q I=>by rcases aNg.1 I with I | I;omega;have:=(aX.lt q I).1;omega
     have qV:=Ext.mod l7 m9 (λ q I=>by have:=SB q I;omega);refine aa (v:= .string ((T.line o).1++az [10])) (Ev Z Z (by rw [pd];simp only [aM1,aM5];omega))<| ?_;have aS:=aS.mod m9 Ah;refine ca ao9 Z Z ((alN nJ _ (((T.line o).1++az [10])) _ aS (by rw [Lib.byteCells_length,aOF,pd];simp only [aM1,aM5];omega)).mono ?_);rintro e ahx ⟨rfl,aa3,hK⟩;refine cF ?_;obtain ⟨ajZ,OA,NQ⟩:=hK;have ari:=GG.at3 aS NQ;have SC:∀ q∈nJ::ajZ,nJ≤q:=λ q I=>by rcases aNg.1 I with I | I;omega;exact (NQ q I).1
     have WN:=Ext.mod qV OA (λ q I=>by have:=SC q I;omega);rw [avg] at aa3;refine nl<|cl<|eR Z Z Z<| ?_;have ar:=(ar.mod m9 (λ q I=>by have:=(λ q I=>by have:=SB q I;omega) q I;omega)).mod OA (λ q I=>by have:=(λ q I=>by have:=SC q I;omega) q I;omega);have lG:=(lG.mod m9 (λ q I hs=>by have:=aa1 q I;have:=SB q hs;omega)).mod OA (λ q I hs=>by have:=aa1 q I;have:=SC q hs;omega);have GG:=GG.mod OA ari;exact eX ⟨k+1,pk,(T.line o).2,(out++((T.line o).1.data.toList++ [10])),Z,Z,WN,ar,lG,GG,aa3,by omega,axk bk (by rw [hw];exact axm (by omega) (by rw [← hw];exact dp)),by simp only [aM6,aM1,aM5,← aN3];omega⟩
    ·simp only [cq] at Jr;have dp:iC o=false:=Jr.elim (λ h=>afl (by omega)) (λ h=>afm (ag0 h));refine fZ<|cl<|eR Z Z Z<| ?_;exact eX ⟨k+1,h,T,out,Z,Z,l7,ar,lG,aX,aS,by omega,by rw [bk,axl (by omega) (by rw [← hw];exact dp)],aNm Gt (aNM _ (Nat.le_succ k))⟩
  ·refine ej<|ei<|eU<|eh<|br<|aF<|ca apa Z Z ((alM nJ out _ aS).mono ?_);rintro e EJ ⟨rfl,GB,_⟩;refine cF ?_;have z9:=Ext.Ri k4 GB (by omega);refine bH Z<|cZ Z Z<| ?_;exact ⟨by unfold fY;rw [aM4 (by rw [← DM];omega),← DM,bk,aPV (by omega)];simp [kJ];rfl,(by unfold fY;rw [aM4 (by rw [← DM];omega),← DM,bk,aPV (by omega),pd,aM6];show out.length+0≤_;omega),z9⟩
structure Kept (W V:ae):Prop where
 field:V.field=W.field
 bj:V.bj=W.bj
 now:V.now=W.now
 next:V.next=W.next+((V.ah.length:Int) - W.ah.length)
 len:W.ah.length≤V.ah.length
 old:∀ (i:Nat) (t:a8),W.ah[i]? =some t→∃ u:a8,V.ah[i]? =some u∧ {u with load:=t.load}=t
 new:∀ (i:Nat) (u:a8),W.ah.length≤i→V.ah[i]? =some u→W.next≤u.id
def afx:List dc→List Bool→List dc
 | d::l,b::b_=>if b then d::afx l b_ else afx l b_
 | _,_=> []
theorem azS {W:ae} (h:W.a7=0):uv W []=W∧yY W []= []:=by
 have aR:=YC (l:= []) h (by decide);have hS:=agM aR;have dP:fK W []=List.replicate W.ah.length 0:=by unfold fK;rw [aR];rfl
 have hu:An W []=W.ah:=by
  apply aOI;intro i;cases aD:W.ah[i]? with
  | none =>
   have:=List.getElem?_eq_none_iff.1 aD;rw [aP1 (by rw [Oh];exact this)]
  | some t =>
   rw [Og aD,dP];have:(List.replicate W.ah.length (0:Int)).getD i 0=0:=by
    rw [aM0,aOz];split<;>rfl
   rw [this,Int.sub_zero]
 have hf:∀ t∈W.ah,0<t.df:=λ t aD=>by have:=(hS.hg.each aD).2.2.df;omega
 constructor
 ·rw [hS.b8,hu,List.filter_eq_self.2 λ t aD=>aNp (hf t aD)]
 ·rw [hS.ar,hu,List.filter_eq_nil_iff.2 λ t aD=>by simp [hf t aD]];rfl
theorem anR {W:ae} (h:W.a7=0):W.sA []=W∧W.vS []= []:=⟨RH h (by decide),M0 h (by decide)⟩
def aLk:List bC:= [⟨0,3,1,⟨2,0⟩,0⟩]
def aLl:ae:=⟨⟨3,1, [0,0,3]⟩, [⟨0,0⟩], [20], [0,0,8], [⟨1,0,1,⟨1,0⟩,10,1⟩],2,1⟩
section
variable {o ws:List ByteArray} {q5:bP}
open Go.RowKit Go.Proofs.YthlpmldmhakhaaaGreatDoor.qX
def qv:av:=⟨8,4,List.replicate 32 0⟩
def Uo:ae:=⟨qv, [], [],List.replicate 32 0, [],1,0⟩
def Ox:ae:=⟨qv, [⟨0,0⟩], [7],List.replicate 32 0, [],1,0⟩
def jy:ae:=⟨qv, [⟨0,0⟩], [7],List.replicate 32 0, [⟨1,0,1,⟨1,1⟩,10,0⟩],2,0⟩
def oM:List bC:= [⟨0,2,1,⟨3,1⟩,0⟩]
def t_:ae:=⟨qv, [⟨0,0⟩], [7],List.replicate 32 0, [⟨1,0,1,⟨2,1⟩,10,0⟩],2,1⟩
theorem au8:qJ=⟨Uo, []⟩:=rfl
theorem Yy {T:bP} {V:ae} (h:V.a7=0):T.zK V o=⟨0,o, {T with W:=V}⟩:=aM4 (by rw [h];decide)
theorem au1:bP.done ⟨Uo, []⟩ [az [98,97,115,101],az [48],az [48],az [55]]=⟨0,eg [0],⟨Ox, []⟩⟩:=
 (tH (by decide +kernel) rfl).trans ((c_ (l:= [0,0,7]) (by decide +kernel)).trans (Yy (T:=⟨Uo, []⟩) (V:=Ox) (o:=eg [0]) (by decide +kernel)))
theorem au2:bP.done ⟨Ox, []⟩ [az [116,114,111,111,112],az [48],az [49],az [49],az [49]]=⟨0,eg [1],⟨jy, []⟩⟩:=by
 refine (tI (by decide +kernel) (by decide +kernel) Z).trans ((c_ (l:= [0,1,1,1]) (by decide +kernel)).trans ?_);unfold bP.xk;exact (aM4 (by decide)).trans (Yy (T:=⟨Ox, []⟩) (V:=jy) (o:=eg [1]) (by decide +kernel))
theorem au3:bP.done ⟨jy, []⟩ [az [103,111],az [48],az [49],az [51],az [49]]=⟨0, [],⟨jy,oM⟩⟩:=by
 refine (zT (by decide +kernel) (by decide +kernel) (by decide +kernel) (by decide +kernel)).trans ((c_ (l:= [0,1,3,1]) (by decide +kernel)).trans ?_);have e:oS (az [103,111]) [0,1,3,1]=⟨0,2,1,⟨3,1⟩,0⟩:=by decide +kernel
 rw [e];exact (aM4 (by decide +kernel)).trans (aM4 (by decide))
theorem au6:eI qv ⟨1,1⟩ ⟨3,1⟩=0∧cR qv ⟨1,1⟩ ⟨3,1⟩= [⟨1,1⟩,⟨2,1⟩,⟨3,1⟩]:=by
 obtain ⟨κ,τ,aq⟩:=apW (f:=qv) (a:=⟨1,1⟩) (b:=⟨3,1⟩) (far:= [-1, -1, -1, -1, -1, -1, -1, -1, -1,0,2,4, -1, -1, -1, -1, -1, -1, -1, -1, -1, -1, -1, -1, -1, -1, -1, -1, -1, -1, -1, -1]) (cert (dl:= [4,2,4,6,8,10,12,14,2,0,2,4,6,8,10,12,4,2,4,6,8,10,12,14,6,4,6,8,10,12,14,16]) (by decide +kernel)) (by decide +kernel) (by decide +kernel) (by decide +kernel) (by decide +kernel);exact ⟨κ,aq.trans (by decide +kernel)⟩
theorem au9:bP.AK ⟨jy,oM⟩=⟨0, [az [47],az [49],az [47]],⟨t_, []⟩⟩:=by
 have hc:jy.a7=0:=by decide +kernel
 have ZQ:hl jy oM oM.length= []:=by decide +kernel
 have aam:ho jy oM oM.length= [⟨1,⟨3,1⟩⟩]:=by decide +kernel
 have ZR:hW jy oM oM.length= []:=by decide +kernel
 have aR:je jy oM=0:=by decide +kernel
 obtain ⟨ky,z2,z3,z4⟩:=Pq aR;obtain ⟨s1,s2⟩:=azS hc;have t1:xl jy oM=jy:=by unfold xl;rw [ZQ];exact s1
 obtain ⟨f1,f2⟩:=au6;have hs:step1 qv [⟨1,⟨3,1⟩⟩] jy.ah 0=some ⟨2,1⟩:=by
  have g1:eo [⟨1,⟨3,1⟩⟩] (jy.ah.getD 0 default).id=0:=by decide +kernel
  have g2:(jy.ah.getD 0 default).spot=⟨1,1⟩:=rfl;unfold step1;rw [g1,g2];show (if (0:Int)<0 then _ else if eI qv ⟨1,1⟩ ⟨3,1⟩≠0 then _ else if (cR qv ⟨1,1⟩ ⟨3,1⟩).length<2 then _ else if 0<ig jy.ah ((cR qv ⟨1,1⟩ ⟨3,1⟩).getD 1 default) then _ else some ((cR qv ⟨1,1⟩ ⟨3,1⟩).getD 1 default))=_;rw [f1,f2];rfl
 have hS:iF qv [⟨1,⟨3,1⟩⟩] jy.ah 1=([⟨1,0,1,⟨2,1⟩,10,0⟩], [1]):=(G9 rfl hs).trans rfl;have m0:=Km (l:= [⟨1,⟨3,1⟩⟩]) hc (by decide);have m1:jy.k2 [⟨1,⟨3,1⟩⟩]=({t_ with now:=0}, [1]):=by
  show (({jy with ah:=(iF qv [⟨1,⟨3,1⟩⟩] jy.ah 1).1}:ae),(iF qv [⟨1,⟨3,1⟩⟩] jy.ah 1).2)=_;rw [hS];rfl
 have t2:y0 jy oM= {t_ with now:=0}:=by unfold y0;rw [t1,aam,m0.2.1,m1]
 obtain ⟨d1,d2⟩:=anR (W:= {t_ with now:=0}) (by decide +kernel);have t3:pI jy oM= {t_ with now:=0}:=by unfold pI;rw [t2,ZR];exact d1
 have aN:ik jy oM=t_:=by rw [ky,t3];rfl
 have cb:oY jy oM= []:=by rw [z2,ZQ];exact s2
 have w3:oZ jy oM= [1]:=by rw [z3,t1,aam,m0.2.2,m1]
 have n5:mE jy oM= []:=by rw [z4,t2,ZR];exact d2
 unfold bP.AK;refine (aM4 (by rw [aR];decide)).trans ?_;rw [aN,cb,w3,n5];have e:eg []++ [az [47]]++eg [1]++ [az [47]]++List.map CF []= [az [47],az [49],az [47]]:=by decide +kernel
 rw [e]
theorem au4:bP.done ⟨jy,oM⟩ [az [116,117,114,110]]=⟨0, [az [47],az [49],az [47]],⟨t_, []⟩⟩:=
 (tJ (by decide +kernel) (by decide +kernel) (by decide +kernel) (by decide +kernel) rfl).trans ((c_ (l:= []) (by decide +kernel)).trans au9)
theorem au5:bP.done ⟨t_, []⟩ [az [116,114,111,111,112,115]]=⟨0, [az [49,44,48,44,49,44,50,44,49,44,49,48,44,48]],⟨t_, []⟩⟩:=by
 refine (zU (by decide +kernel) (by decide +kernel) (by decide +kernel) (by decide +kernel) (by decide +kernel) Z).trans ((c_ (l:= []) (by decide +kernel)).trans ?_);have e:t_.ah.map ux= [az [49,44,48,44,49,44,50,44,49,44,49,48,44,48]]:=by decide +kernel
 show (⟨0,t_.ah.map ux,⟨t_, []⟩⟩:om)=_;rw [e]
theorem avi {T:bP} (h:T.done ws=⟨0,o,q5⟩):T.line ws=(kZ (sT::o) (az [32]),q5):=by
 unfold bP.line Mk;rw [h];rfl
theorem Kw {T:bP} {l:ByteArray} {r:List ByteArray} {x:List UInt8} (hw:eT l=ws) (bk:iC ws=true) (h:T.done ws=⟨0,o,q5⟩) (aw:(kZ (sT::o) (az [32])).data.toList=x):kJ (l::r) T=x++10::kJ r q5:=by
 show (if iC (eT l)=true then _ else _)=_;rw [hw,aNd bk,avi h,aw]
def Ow:ByteArray:=az [98,97,115,101,32,48,32,48,32,55,10,116,114,111,111,112,32,48,32,49,32,49,32,49,10,103,111,32,48,32,49,32,51,32,49,10,116,117,114,110,10,116,114,111,111,112,115,10]
def aen:ByteArray:=az [111,107,32,48,10,111,107,32,49,10,111,107,10,111,107,32,47,32,49,32,47,10,111,107,32,49,44,48,44,49,44,50,44,49,44,49,48,44,48,10]
theorem aeo:eF Ow= [az [98,97,115,101,32,48,32,48,32,55],az [116,114,111,111,112,32,48,32,49,32,49,32,49],az [103,111,32,48,32,49,32,51,32,49],az [116,117,114,110],az [116,114,111,111,112,115]]:=by decide +kernel
theorem au7:fY Ow=aen:=by
 unfold fY;rw [aM4 (by rw [aeo];decide +kernel),aeo,au8];rw [Kw (x:= [111,107,32,48]) (ws:= [az [98,97,115,101],az [48],az [48],az [55]]) (by decide +kernel) (by decide +kernel) au1 (by decide +kernel)];rw [Kw (x:= [111,107,32,49]) (ws:= [az [116,114,111,111,112],az [48],az [49],az [49],az [49]]) (by decide +kernel) (by decide +kernel) au2 (by decide +kernel)];rw [Kw (x:= [111,107]) (ws:= [az [103,111],az [48],az [49],az [51],az [49]]) (by decide +kernel) (by decide +kernel) au3 (by decide +kernel)];rw [Kw (x:= [111,107,32,47,32,49,32,47]) (ws:= [az [116,117,114,110]]) (by decide +kernel) (by decide +kernel) au4 (by decide +kernel)];rw [Kw (x:= [111,107,32,49,44,48,44,49,44,50,44,49,44,49,48,44,48]) (ws:= [az [116,114,111,111,112,115]]) (by decide +kernel) (by decide +kernel) au5 (by decide +kernel)];rfl
end
structure Ij where
 a:Option Addr
 n:Nat
 c:Nat
instance:Inhabited Ij:=⟨⟨none,0,0⟩⟩
def Pp:Φ Ij:=Φ.flat 1 (λ v=> [.slice v.a v.n v.c]) (λ _=>True) (λ _ u=>∃ a n c,u= .slice a n c) (λ _=>rfl) (by intro a u hu;simp at hu;subst hu;rfl) (by
 intro a j u hu;cases j with
 | zero=>simp at hu;exact ⟨_,_,_,hu.symm⟩
 | succ j=>simp at hu)
theorem ayt:∀ (j:Nat) u,(Value.slice none 0 0).cells[j]? =some u→Pp.raw j u:=by
 intro j u hu;have hu:(#[(.slice none 0 0:Value)]:Array Value)[j]? =some u:=hu
 match j,hu with
 | 0,hu=>exact ⟨_,_,_,(aNf hu).symm⟩
 | j+1,hu=>simp at hu
section
variable {k n:Nat} {a b:ByteArray}
theorem ajc:dN prog e_ 26 9 16:=dN.jz (z:= .string .empty) (k:=1) underlying26 DW rfl rfl (by decide) (λ j u h=>Er j u h)
theorem ajb:dN prog Pp 22 26 24:=dN.jz (z:= .slice none 0 0) (k:=1) underlying22 (by kernel_rfl) rfl rfl (by decide) (λ j u h=>ayt j u h)
section
variable {P:Program} {E:List (Nat×Value)} {w w':World} {d:Option Nat} {ty:TypeId} {pos:String} {aW:Array Edge} {g:Option (Nat×Bool)} {x y z:Operand} {t u:TypeId}
theorem ay4 {s:ByteArray} {i j:Int} (lo ak:Nat) (aD:P.underlying t=some .string) (hx:ev E x=some (.string s)) (aH:ev E y=some (γ i)) (bo:ev E z=some (γ j)) (κ:i=(lo:Int)) (τ:j=(ak:Int)) (aq:lo≤ak) (bb:ak≤s.size):cG P E ⟨d, .slice t x (some y) (some z) none,ty,pos,aW,g⟩ w (.string (s.extract lo ak)) w:=λ n a ha=>by
 subst κ;subst τ;have dv:=run_slice_string (P:=P) (w:=w) t s .i64 .i64 (lo:Int) (ak:Int) aD (by omega) (by omega) (by omega);have ey:=run_sliceAt_string (P:=P) (w:=w) t (.string s) (some (γ (lo:Int))) (some (γ (ak:Int))) none aD;simp only [execOp,ha.ev hx,ha.ev aH,ha.ev bo,Option.map,ey,dv,aNh,aNb,aNl,aN9]
theorem alP (cur:List UInt8) {s:ByteArray} (h:k<s.size):az cur++s.extract k (k+1)=az (cur++ [s.data.toList.getD k 0]):=by
 have cp:k<s.data.toList.length:=by rw [← aN3];exact h
 have e:(s.extract k (k+1)).data.toList= [s.data.toList.getD k 0]:=by
  rw [aM0,aM3 cp];simp only [ByteArray.data_extract,Array.toList_extract,List.extract_eq_take_drop];rw [aNX cp];simp
 rw [← Iw (s.extract k (k+1)),e];unfold az;apply ByteArray.ext;simp
theorem azu {cur:List UInt8} {s:ByteArray} (hx:ev E x=some (.string (az cur))) (aH:ev E y=some (.string (s.extract k (k+1)))) (aj:k<s.size) (h:cur.length+1≤9223372036854775807):cG P E ⟨d, .binOp .add t x y u,ty,pos,aW,g⟩ w (.string (az (cur++ [s.data.toList.getD k 0]))) w:=by
 rw [← alP cur aj];exact Ev hx aH (by rw [pd,ByteArray.size_extract];omega)
end
def wf:List UInt8→List UInt8→List (List UInt8)
 | _, []=> []
 | cur,x::l=>if x=32 then (if cur= [] then [] else [cur])++wf [] l else wf (cur++ [x]) l
theorem Wf:∀ (l cur h:List UInt8) (t:List (List UInt8)),fR 32 l=h::t→wf cur (l++ [32])=((cur++h)::t).filter λ x=>decide (x≠ [])
 | [],cur,h,t,e=>by
  rw [agD] at e;cases e
  show (if (32:UInt8)=32 then _ else _)=_;rw [aNd rfl,aNA];by_cases hc:cur= []<;>simp [hc,wf]
 | x::l,cur,h,t,e=>by
  obtain ⟨p,r,a1⟩:=AH 32 l;show (if x=32 then (if cur= [] then [] else [cur])++wf [] (l++ [32]) else wf (cur++ [x]) (l++ [32]))=_;by_cases hx:x=32
  ·subst hx;rw [AG] at e;cases e
   rw [aNd rfl,Wf l [] p r a1,a1,aNA,aOA];by_cases hc:cur= []<;>simp [hc]
  ·rw [xj hx a1] at e;injection e with cL iY
   subst cL;subst iY;rw [aM4 hx,Wf l (cur++ [x]) p _ a1];simp
theorem aBo (s:ByteArray):eT s=(wf [] (s.data.toList++ [32])).map az:=by
 obtain ⟨h,t,e⟩:=AH 32 s.data.toList;rw [Wf _ [] h t e,aOA,← e];unfold eT cO;rw [List.filter_map];congr 1;apply List.filter_congr;intro x _;show Ap (az x)=_;unfold Ap;by_cases hx:x= []
 ·subst hx;rfl
 ·have:¬ az x=az []:=λ e=>hx (MC e);simp [hx,this]
section
variable {s:ByteArray} {cur:List UInt8} {i:Nat} {o:List ByteArray}
theorem aBp (ak:i<s.size) (hx:¬ s.data.toList.getD i 0=32) (h:eT s=o++(wf cur ((s.data.toList++ [32]).drop i)).map az):eT s=o++(wf (cur++ [s.data.toList.getD i 0]) ((s.data.toList++ [32]).drop (i+1))).map az:=by
 rw [h];have ay:i<s.data.toList.length:=by rw [← aN3];exact ak
 have nP:i<(s.data.toList++ [32]).length:=by simp only [aM6];omega
 have e:(s.data.toList++ [32])[i]=s.data.toList.getD i 0:=by
  rw [aM0,aM3 ay,aQ4 ay];rfl
 rw [aNX nP,e];congr 2;exact aM4 hx
theorem ahK (ak:i≤s.size) (hx:i<s.size→s.data.toList.getD i 0=32) (h:eT s=o++(wf cur ((s.data.toList++ [32]).drop i)).map az):eT s=(o++(if cur= [] then [] else [az cur]))++(wf [] ((s.data.toList++ [32]).drop (i+1))).map az:=by
 rw [h];have nP:i<(s.data.toList++ [32]).length:=by simp only [aM6,aM1,aM5];rw [← aN3];omega
 have e:(s.data.toList++ [32])[i]=32:=by
  by_cases ay:i<s.data.toList.length
  ·rw [aQ4 ay];have:=hx (by rw [aN3];exact ay);rw [aM0,aM3 ay] at this;exact this
  ·rw [List.getElem_append_right (by omega)];simp
 rw [aNX nP,e];show _++(if (32:UInt8)=32 then _ else _:List (List UInt8)).map az=_;rw [aNd rfl,aNx,aNB];by_cases hc:cur= []<;>simp [hc]
end
theorem awB (h:(!decide (az []=az []))=true):False:=by simp at h
theorem awC (h:(!decide (a=b))=true):¬ a=b:=by simpa using h
theorem ae5 (h:(!decide (a=b))=false):a=b:=by simpa using h
theorem aAk {x:UInt8} {b:UInt8} (af:b.toNat=n) (h:¬ (x.toNat:Int)=n):¬ x=b:=λ e=>h (by rw [e,af])
theorem aAj {x:UInt8} {b:UInt8} (af:b.toNat=n) (h:(x.toNat:Int)=n):x=b:=UInt8.toNat_inj.1 (by omega)
def AJ (p:List (List UInt8)):List (List UInt8):=if p.getD (((p.length:Int) - 1).toNat) []= [] then p.take (((p.length:Int) - 1).toNat) else p
theorem J6 (s:ByteArray):eF s=(AJ (fR 10 s.data.toList)).map az:=by
 obtain ⟨h,t,e⟩:=AH 10 s.data.toList;unfold eF AJ cO qu;rw [aNI];have ay:(((fR 10 s.data.toList).length:Int) - 1).toNat<(fR 10 s.data.toList).length:=by rw [e,aM1];omega
 generalize (((fR 10 s.data.toList).length:Int) - 1).toNat=k at ay ⊢;have aR:((fR 10 s.data.toList).map az).getD k ByteArray.empty=az ((fR 10 s.data.toList).getD k []):=by
  rw [aM0,aM0,aNt,aM3 ay];rfl
 rw [aR];by_cases hn:(fR 10 s.data.toList).getD k []= []
 ·rw [aNd (by rw [hn]),aNd hn,aQ3]
 ·rw [aM4 (λ e=>hn (MC e)),aM4 hn]
theorem agR (h:List UInt8) {t:List (List UInt8)} (aD:t≠ []):AJ (h::t)=h::AJ t:=by
 have ay:0<t.length:=aRq.2 aD;have e:((((h::t).length:Nat):Int) - 1).toNat=(((t.length:Int) - 1).toNat)+1:=by rw [aM1];omega
 unfold AJ;rw [e,List.getD_cons_succ,aQi];split<;>rfl
theorem Y1:∀ l:List UInt8,(fR 10 l=(Lib.cut l [10]).1::fR 10 (Lib.cut l [10]).2.1∧(Lib.cut l [10]).2.1.length<l.length∧(Lib.cut l [10]).1.length≤l.length)∨(fR 10 l= [l]∧Lib.cut l [10]=(l, [],false))
 | []=> .inr ⟨rfl,by unfold Lib.cut;rw [(wF 10 []).1 rfl];rfl⟩
 | x::l=>by
  by_cases hx:x=10
  ·subst hx;have e:Lib.cut (10::l) [10]=([],l,true):=by unfold Lib.cut;rw [(wF 10 l).2.2];rfl
   rw [e];exact .inl ⟨AG 10 l,by simp,by simp⟩
  ·rcases aOU (l.count 10) with aC | aC
   ·have ak:Lib.index (x::l) [10]= -1:=(wF 10 (x::l)).1 (by rw [aO0 hx,aC]);have hs:fR 10 l= [l]:=by rw [← Vu,aC];rfl
    exact .inr ⟨xj hx hs,by unfold Lib.cut;rw [ak];rfl⟩
   ·obtain ⟨i,ak⟩:=acB aC;have κ:=(wF 10 l).2.1 x hx i ak;have aR:Lib.cut l [10]=(l.take i,l.drop (i+1),true):=by unfold Lib.cut;rw [ak,aNd (by omega)];simp
    have a1:Lib.cut (x::l) [10]=(x::l.take i,l.drop (i+1),true):=by unfold Lib.cut;rw [κ,aNd (by omega)];simp
    rcases Y1 l with ⟨dv,ey,jx⟩ | ⟨_,k⟩
    ·rw [aR] at dv ey;rw [a1];exact .inl ⟨xj hx dv,by simp only [aM1] at ey ⊢;omega,by simp only [aM1,aM9];omega⟩
    ·rw [aR] at k;exact absurd (aOP (λ q=>q.2.2) k) (by simp)
def sx (s:ByteArray):ByteArray:=az (Lib.cut s.data.toList [10]).1
def Fw (s:ByteArray):ByteArray:=az (Lib.cut s.data.toList [10]).2.1
theorem aep:eF (az [])= []:=rfl
theorem avk {s:ByteArray} (h:¬ s=az []):eF s=sx s::eF (Fw s)∧(Fw s).size<s.size∧(sx s).size≤s.size:=by
 have dF:¬ s.data.toList= []:=λ e=>h (by rw [← Iw s,e]);rw [J6,J6];unfold sx Fw;rw [pd,pd,aN3 s];show _∧_;have e0:(az (Lib.cut s.data.toList [10]).2.1).data.toList=(Lib.cut s.data.toList [10]).2.1:=by unfold az;simp
 rw [e0];rcases Y1 s.data.toList with ⟨dv,ey,jx⟩ | ⟨dv,ey⟩
 ·obtain ⟨p,r,e⟩:=AH 10 (Lib.cut s.data.toList [10]).2.1;refine ⟨?_,ey,jx⟩;rw [dv,agR _ (by rw [e];exact aPS _ _)];rfl
 ·rw [dv,ey];refine ⟨?_,aRq.2 dF,aNk _⟩;have:AJ [s.data.toList]= [s.data.toList]:=aM4 dF;rw [this];rfl
def pc (l:List ByteArray):Nat:=(l.filter λ x=>iC (eT x)).length
theorem Yg (x:ByteArray) (l:List ByteArray):pc (x::l)=(if iC (eT x)=true then 1 else 0)+pc l:=by
 unfold pc;by_cases h:iC (eT x)=true
 ·rw [List.filter_cons_of_pos (p:=λ x=>iC (eT x)) h,aNd h,aM1,aPy]
 ·rw [List.filter_cons_of_neg (p:=λ x=>iC (eT x)) h,aM4 h,aN5]
theorem ay5 (s:ByteArray) (w:World) (hs:s.size≤2000000) (ar:k7 w):
  Calls prog 16 #[.string s, .string (az [10])] w λ e w'=>e= .returned (.tuple #[.string (sx s), .string (Fw s), .bool (Lib.cut s.data.toList [10]).2.2])∧Ext w w':=by
 obtain ⟨m,hm⟩:=ar.m;refine (strings_Cut s (az [10]) m w (by omega) hm).mono ?_;rintro e w' ⟨rfl,n,rfl⟩;exact ⟨Z,below_drewN (aNH _ _) n⟩
theorem aBt (s:ByteArray) (w:World) (hs:s.size≤2000000):
  Calls prog 17 #[.string s] w (λ e w'=>∃ A c,e= .returned (.slice A (eT s).length c)∧e_.aM 9 16 w' w.heap.size (Φ.ab A) A c (eT s)∧Ext w w'):=by
 refine cx (n:=37) func17 Z Z Z ?_;refine aF<|aT Z<|aF<|aT Z<|aF<|aT Z<|aI<|aK Z<|aa (B5 underlying9 Z (by omega))<|fl Z Z<|vm Z<|aJ<| ?_;refine bT<| ?_;refine gi (λ cJ cu aV=>∃ i:Nat,∃ cur:List UInt8,∃ ct:Option Addr,∃ co:Nat,∃ o:List ByteArray,cu= [(0, .string s),(2, .slice none 0 0),(3, .slice ct o.length co),(4, .string (az cur)),(8, .int .i64 ((((s).size:Int))+1)),(9, .int .i64 (i:Int))]∧cJ=s.size+1 - i∧Ext w aV∧e_.aM 9 16 aV w.heap.size (Φ.ab ct) ct co (o)∧(i≤s.size+1)∧(eT s=o++(wf cur ((s.data.toList++ [32]).drop i)).map az)∧(cur.length≤i)∧(o.length≤i)) _ _ ⟨0, [],none,0, [],Z,Z,(Ext.bN w),(Φ.aM.nil _),by omega,by rw [aQW,aOA];exact aBo s,aNk _,aNk _⟩ (eS Z Z Z) ?_;rintro wQ HL dk ⟨i,cur,ct,co,o,rfl,rfl,dM,bW,ak,kV,yB,Gt⟩;refine aF<|fB Z Z<|aJ<|aI<| ?_;refine fH Z (λ oB=> ?_) (λ oB=> ?_)
 ·refine bE<|aI<|bT<|aK Z<|aT Z<|aI<|aK Z<|vm Z<|aa (B5 underlying9 Z (by omega))<|fB Z Z<|vm Z<|fS Z Z<|fS Z Z<|b9 Z (λ hc=>KI underlying9 (gt hc Z) (gt hc Z) (by omega) (Pn (s:=s) (k:=i) (by (try simp only [cq] at hc);omega)))<|b9 Z (λ hc=>bne (gt hc Z) Z)<|aa (eZ Z Z Z Z)<|nl<| ?_;refine br<| ?_;refine c1 Z (λ Jp=> ?_) (λ Jp=> ?_)
  ·simp only [cq] at Jp;have GB:¬ s.data.toList.getD i 0=32:=aAk (n:=32) rfl Jp.2;refine aK Z<|vm Z<|vm Z<|vm Z<|fl Z Z<|aa (ay4 i (i+1) underlying9 Z Z Z Z (by omega) (by omega) (by omega))<|aa (v:= .string (az (cur++ [s.data.toList.getD i 0]))) (azu Z Z (by omega) (by omega))<|aT Z<|ej<|ei<|eh<|eR Z Z Z<| ?_;exact eX ⟨i+1,(cur++ [s.data.toList.getD i 0]),ct,co,o,Z,Z,dM,bW,by omega,aBp (by omega) GB kV,by rw [aM6];simp only [aM1,aM5];omega,by omega⟩
  ·simp only [cq] at Jp;have GB:i<s.size→s.data.toList.getD i 0=32:=λ ak=>Jp.elim (λ h=>absurd ak (by omega)) (λ h=>aAj (n:=32) rfl h);refine bE<|aI<|aK Z<|aa (Fo underlying9 Z Z)<|aJ<| ?_;refine c1 Z (λ oC=> ?_) (λ oC=> ?_)
   ·have Tr:¬ cur= []:=λ e=>by subst e;exact awB oC
    refine rg<|vm Z<|vm Z<|b_ (e:= 9) (cs:= [.string (az cur)]) Z (λ _=>by kernel_rfl) Z λ uG aEl xx aHY ai1=> ?_;have jh:=J dM xx;have bW:=bW.later xx;refine ap ajc pF bW (aO.fy (R:=e_) (by_:=16) (q:=(az cur)) ai1 ⟨Z,(by show (az cur).size≤_;rw [pd];omega)⟩ (by decide)) Z Z (by simp only [aM1,aM5];omega) (by simp only [aM1,aM5];omega) jh.size Z λ s3 aiB amm aeQ Ie aFY aJm=> ?_;have iV:=Ext.mod jh aeQ (λ q I=>(bW.lt q I).1);refine aT Z<|rg<|va Z<|nl<|cl<|eR Z Z Z<| ?_;exact eX ⟨i+1, [],aiB,amm,o++ [(az cur)],Z,Z,iV,Ie,by omega,by have e:=ahK (by omega) GB kV;rw [aM4 Tr] at e;exact e,aNQ _,by simp only [aM6,aM1,aM5];omega⟩
   ·have Tr:cur= []:=MC (ae5 oC);refine bE<|rg<|va Z<|nl<|cl<|eR Z Z Z<| ?_;exact eX ⟨i+1, [],ct,co,o,Z,Z,dM,bW,by omega,by have e:=ahK (by omega) GB kV;rw [aNd Tr] at e;rw [aNA] at e;exact e,aNQ _,by omega⟩
 ·refine ej<|ei<|eU<|eh<|br<|aK Z<|bH Z<|cZ Z Z<| ?_;have e:eT s=o:=by rw [kV,aPV (by simp only [aM6,aM1,aM5];rw [← aN3];omega)];simp [wf]
  rw [e];exact ⟨_,_,Z,bW,dM⟩
theorem aeq (text:ByteArray) (w:World) (hh:text.size≤2000000) (vY:k7 w):
  Calls prog 6 #[.string text] w (λ e w'=>∃ A c,e= .returned (.tuple #[.slice A (pc (eF text)) c,γ ((eF text).length:Int)])∧Ext w w'):=by
 have ar:=fu.of vY;refine cx (n:=39) func6 Z Z Z ?_;refine aF<|va Z<|aT Z<|aF<|aT Z<|aF<|aT Z<|aI<|bT<| ?_;refine gi (λ cJ cu aV=>∃ t:ByteArray,∃ n:Nat,∃ ct:Option Addr,∃ co:Nat,∃ o:List Ij,cu= [(0, .string t),(2, .slice none 0 0),(3,γ 0),(4, .slice ct o.length co),(5,γ (n:Int))]∧cJ=t.size∧Ext w aV∧fu w.heap.size aV∧Pp.aM 26 24 aV w.heap.size (Φ.ab ct) ct co (o)∧(t.size≤text.size)∧(n+(eF t).length=(eF text).length)∧(o.length+pc (eF t)=pc (eF text))∧(o.length≤n)) _ _ ⟨text,0,none,0, [],Z,Z,(Ext.bN w),ar,(Φ.aM.nil _),by omega,by omega,by simp,by simp⟩ (eS Z Z Z) ?_;rintro wQ HL dk ⟨t,n,ct,co,o,rfl,rfl,dM,ar,bW,aHh,hn,bk,aG2⟩;have aGK:=avl text;refine aI<|aK Z<|aa (Fo underlying9 Z Z)<|aJ<| ?_;refine c1 Z (λ oB=> ?_) (λ oB=> ?_)
 ·obtain ⟨abb,aF9,aGa⟩:=avk (awC oB);have aqS:=aOP List.length abb;rw [aM1] at aqS;have SM:=aOP pc abb;rw [Yg] at SM;refine bE<|bT<|aK Z<|c0 apb Z (ay5 t _ (by omega) ar.dK) λ EH l2=> ?_;have mL:=J dM l2;refine vm Z<|b0 Z Z<|b0 Z Z<|b0 Z Z<|va Z<|va Z<|aT Z<|aK Z<|aT Z<|aK Z<|fl Z Z<|aT Z<|aF<| ?_;refine vm Z<|ca apc Z Z ((aBt (sx t) _ (by omega)).mono ?_);rintro e xp ⟨E4,Fx,rfl,X2,eA⟩;refine cF ?_;have iU:=J mL eA;refine aT Z<|aK Z<|aa (dr underlying26 Z)<|aa (hO Z Z)<|vm Z<|fS Z Z<|b9 Z (λ hc=>bX 0 underlying26 zX (gt hc Z) Z (X2.has.bw (aZ 0 (by (try simp only [cq] at hc);omega))) Z (by (try simp only [cq] at hc);omega))<|b9 Z (λ hc=>aB (gt hc Z) (Φ.aQ.dj DI (X2.has.cg (aZ 0 (by (try simp only [cq] at hc);omega))) (cj (l:=eT (sx t)) (u:=ByteArray.empty) (j:=0) (by (try simp only [cq] at hc);omega)) Z Dh))<|b9 Z (λ hc=>KI underlying9 (gt hc Z) Z (by omega) (Pn (s:=(eT (sx t)).getD 0 ByteArray.empty) (k:=0) (ahH (l:=sx t) (mr (by (try simp only [cq] at hc);omega)))))<|b9 Z (λ hc=>bne (gt hc Z) Z)<|aa (eZ Z Z Z Z)<|aJ<| ?_;refine c1 Z (λ j6=> ?_) (λ j6=> ?_)
  ·simp only [cq] at j6;have dp:iC (eT (sx t))=true:=afn (by omega) (λ e=>j6.2 (by rw [e];rfl));rw [aNd dp] at SM;refine rg<|vm Z<|vm Z<|b_ (e:= 26) (cs:= [.slice E4 ((eT (sx t)).length) Fx]) Z (λ _=>by kernel_rfl) Z λ s3 tC gw ad6 ai7=> ?_;have iV:=J iU gw;have bW:=bW.later (J l2 (J eA gw));refine ap ajb Φ.c6 bW (aO.fy (R:=Pp) (by_:=24) (q:=(⟨E4,(eT (sx t)).length,Fx⟩:Ij)) ai7 ⟨Z,trivial⟩ (by decide)) Z Z (by simp only [aM1,aM5];omega) (by simp only [aM1,aM5];omega) iV.size Z λ Hf aiH ams B_ akv aF0 aJp=> ?_;have nu:=Ext.mod iV B_ (λ q I=>(bW.lt q I).1);refine va Z<|nl<|cl<| ?_;have ar:=(ar.later (J l2 (J eA gw))).mod B_ (λ q I=>by have:=(λ q I=>(bW.lt q I).1) q I;omega);exact eX ⟨(Fw t),n+1,aiH,ams,o++ [(⟨E4,(eT (sx t)).length,Fx⟩:Ij)],Z,Z,nu,ar,akv,by omega,by omega,by rw [aM6];simp only [aM1,aM5];omega,by rw [aM6];simp only [aM1,aM5];omega⟩
  ·simp only [cq] at j6;have dp:iC (eT (sx t))=false:=j6.elim (λ h=>afl (by omega)) (λ h=>afm (ag0 h));rw [aM4 (by rw [dp];decide)] at SM;refine fZ<|cl<| ?_;have dW:=(J l2 eA);have ar:=ar.later dW;have bW:=bW.later dW;exact eX ⟨(Fw t),n+1,ct,co,o,Z,Z,iU,ar,bW,by omega,by omega,by omega,by omega⟩
 ·have aD:=ae5 oB;refine ej<|ei<|eU<|eh<|br<|aK Z<|vm Z<|va Z<|bH Z<|ht Z Z Z<| ?_;have aD:t=az []:=aD;rw [aD,aep] at hn bk;have hn:n=(eF text).length:=hn;have bk:o.length=pc (eF text):=bk;rw [← hn,← bk];exact ⟨_,_,Z,dM⟩
end
section
variable {l:List ByteArray} {n:Nat} {s a:ByteArray}
open Go.RowKit Go.Proofs.YthlpmldmhakhaaaGreatDoor.qX
def xW (s:ByteArray):Prop:=(10:UInt8)∉s.data.toList
theorem sr (l:List UInt8):(az l).data.toList=l:=by unfold az;simp
theorem El {l:List UInt8}:xW (az l)↔(10:UInt8)∉l:=by unfold xW;rw [sr]
theorem Zx (h:n<10):(10:UInt8)≠UInt8.ofNat (48+n):=λ e=>by
 have:=aOP UInt8.toNat e;rw [UInt8.toNat_ofNat'] at this;have aR:(10:UInt8).toNat=10:=rfl;rw [aR,aPQ (by omega)] at this;omega
theorem RD:∀ (k u:Nat),u<k→(10:UInt8)∉Lib.decDigits u
 | 0,u,h=>by omega
 | k+1,u,h=>by
  unfold Lib.decDigits;split
  ·rename_i κ
   intro hm;exact Zx κ (aMZ.1 hm)
  ·rename_i κ
   intro hm;rcases aNi.1 hm with hm | hm
   ·exact RD k (u / 10) (by omega) hm
   ·exact Zx (aQq _ (by decide)) (aMZ.1 hm)
theorem acF (n:Int):xW (sP n):=El.2<|by
 unfold Lib.itoa;split
 ·intro hm;rcases aNg.1 hm with hm | hm
  ·revert hm;decide
  ·exact RD _ _ (Nat.lt_succ_self _) hm
 ·exact RD _ _ (Nat.lt_succ_self _)
theorem acD {x:UInt8} {sep:List UInt8} (hs:x∉sep):∀ {l:List (List UInt8)},(∀ y∈l,x∉y)→x∉Lib.join l sep
 | [],_=>by rw [Lib.join_nil];exact aOx
 | [y],h=>by rw [Lib.join_one];exact h y aNo
 | y::z::r,h=>by
  have e:Lib.join (y::z::r) sep=y++(sep++Lib.join (z::r) sep):=by simp [Lib.join,List.intercalate,List.intersperse]
  rw [e];intro hm;rcases aNi.1 hm with hm | hm
  ·exact h y aNo hm
  ·rcases aNi.1 hm with hm | hm
   ·exact hs hm
   ·exact acD hs (λ q I=>h q (aNe _ I)) hm
theorem Uf {sep:List UInt8} (hs:(10:UInt8)∉sep) (h:∀ x∈l,xW x):xW (kZ l (az sep)):=El.2<|by
 rw [sr];refine acD hs λ y aH=> ?_;obtain ⟨x,hx,rfl⟩:=aNn.1 aH;exact h x hx
def p0 (l:List ByteArray):Prop:=∀ x∈l,xW x
theorem qE:p0 []:=λ x hx=>nomatch hx
theorem yT (l:List Int):p0 (eg l):=λ x hx=>by obtain ⟨n,_,rfl⟩:=aNn.1 hx;exact acF n
theorem Kq {m:List ByteArray} (κ:p0 l) (τ:p0 m):p0 (l++m):=λ x hx=>(aNi.1 hx).elim (κ x) (τ x)
theorem afc {x:ByteArray} (h:xW x):p0 [x]:=λ y aH=>by rw [aMZ.1 aH];exact h
theorem UK {α:Type} {f:α→ByteArray} {l:List α} (h:∀ a,xW (f a)):p0 (l.map f):=λ x hx=>by obtain ⟨a,_,rfl⟩:=aNn.1 hx;exact h a
theorem nb {p:Prop} [Decidable p] {x y:om} (κ:p0 x.out) (τ:p0 y.out):p0 (if p then x else y).out:=by split<;>assumption
theorem AA {T:bP} {r:List ByteArray} {f:List Int→om} (h:∀ l,p0 (f l).out):p0 (jT T n r f).out:=by
 unfold jT;split
 ·exact qE
 ·exact h _
theorem afb {T:bP} {V:ae} {o:List ByteArray} (h:p0 o):p0 (T.zK V o).out:=by unfold bP.zK;exact nb qE h
theorem awJ (T:bP) (ws:List ByteArray):p0 (T.done ws).out:=by
 unfold bP.done;split
 ·exact qE
 ·rename_i s r
  refine nb ?_ (nb (AA λ l=> ?_) (nb (AA λ l=> ?_) (nb (AA λ l=> ?_) (nb (AA λ l=> ?_) (nb (AA λ l=> ?_) (nb (AA λ l=> ?_) (nb (AA λ l=> ?_) (nb (AA λ l=> ?_) (nb (AA λ l=> ?_) qE)))))))))
  ·split
   ·exact nb qE qE
   ·exact qE
  ·exact afb (yT _)
  ·unfold bP.xk;exact nb qE (afb (yT _))
  ·unfold bP.wait;exact nb qE (nb qE qE)
  ·unfold bP.AK;have af:xW (az [47]):=El.2 (by decide);refine nb qE (Kq (Kq (Kq (Kq (yT _) (afc af)) (yT _)) (afc af)) (UK λ b=> ?_));cases b
   ·exact El.2 (by decide)
   ·exact El.2 (by decide)
  ·exact UK λ t=>Uf (by decide) (yT _)
  ·exact nb qE (yT _)
  ·unfold bP.way;refine nb qE (Kq (yT _) (UK λ t=>Uf (by decide) (yT _)))
  ·exact nb qE (yT _)
  ·exact yT _
def NJ (a:ByteArray):Prop:=a=az [111,107]∨Lib.hasPrefix a.data.toList [111,107,32]=true∨Lib.hasPrefix a.data.toList [101,114,114,111,114,32]=true
theorem UY (p l:List UInt8):Lib.hasPrefix (p++l) p=true:=by
 unfold Lib.hasPrefix;rw [List.isPrefixOf_iff_prefix];exact List.prefix_append p l
theorem avh (T:bP) (ws:List ByteArray):xW (T.line ws).1∧NJ (T.line ws).1:=by
 by_cases h:(T.done ws).e=0
 ·rw [Uq h];refine ⟨Uf (by decide) λ x hx=> ?_, ?_⟩
  ·rcases aNg.1 hx with rfl | hx
   ·exact El.2 (by decide)
   ·exact awJ T ws x hx
  ·cases hr:(T.done ws).out with
   | nil =>
    left;unfold kZ;rw [aNF,aOf,Lib.join_one];rfl
   | cons y r =>
    right;left;unfold kZ;rw [sr];have e:Lib.join ((sT::y::r).map (·.data.toList)) (az [32]).data.toList= [111,107,32]++Lib.join ((y::r).map (·.data.toList)) (az [32]).data.toList:=by
     simp [Lib.join,List.intercalate,List.intersperse,sT,az]
    rw [e];exact UY _ _
 ·rw [Up h];unfold yp;have e:(az [101,114,114,111,114,32]++sP (T.done ws).e)=az ([101,114,114,111,114,32]++(sP (T.done ws).e).data.toList):=by
   apply ByteArray.ext;simp [az]
  rw [e];refine ⟨El.2 λ hm=> ?_, .inr (.inr (by rw [sr];exact UY _ _))⟩;rcases aNi.1 hm with hm | hm
  ·revert hm;decide
  ·exact acF _ hm
noncomputable def C8:List ByteArray→bP→List (List UInt8)
 | [],_=> []
 | l::r,T=>if iC (eT l)=true then (T.line (eT l)).1.data.toList::C8 r (T.line (eT l)).2 else C8 r T
theorem Ml:∀ (ls:List ByteArray) (T:bP),(C8 ls T).length=pc ls
 | [],_=>rfl
 | l::r,T=>by
  rw [Yg];show (if _ then _ else _:List (List UInt8)).length=_;by_cases h:iC (eT l)=true
  ·rw [aNd h,aNd h,aM1,Ml r,aPy]
  ·rw [aM4 h,aM4 h,Ml r,aN5]
theorem Ra:∀ (ls:List ByteArray) (T:bP) (a:List UInt8),a∈C8 ls T→(10:UInt8)∉a∧NJ (az a)
 | l::r,T,a,h=>by
  have h:a∈(if iC (eT l)=true then _ else _:List (List UInt8)):=h;by_cases bk:iC (eT l)=true
  ·rw [aNd bk] at h;rcases aNg.1 h with rfl | h
   ·rw [Iw];exact avh T _
   ·exact Ra r _ a h
  ·rw [aM4 bk] at h;exact Ra r _ a h
def z1 (l:List (List UInt8)):List UInt8:=(l.map λ a=>a++ [10]).flatten
theorem OZ:∀ (ls:List ByteArray) (T:bP),kJ ls T=z1 (C8 ls T)
 | [],_=>rfl
 | l::r,T=>by
  show (if _ then _ else _)=z1 (if _ then _ else _);by_cases h:iC (eT l)=true
  ·rw [aNd h,aNd h,OZ r];simp [z1]
  ·rw [aM4 h,aM4 h,OZ r]
theorem agB (b:UInt8):∀ (x y:List UInt8),b∉x→fR b (x++b::y)=x::fR b y
 | [],y,_=>AG b y
 | c::x,y,h=>xj (λ e=>h (by rw [e];exact aNo)) (agB b x y λ hm=>h (aNe _ hm))
theorem agE (b:UInt8):∀ x:List UInt8,b∉x→fR b x= [x]
 | [],_=>rfl
 | c::x,h=>xj (λ e=>h (by rw [e];exact aNo)) (agE b x λ hm=>h (aNe _ hm))
theorem agC:∀ (l:List (List UInt8)),l≠ []→(∀ a∈l,(10:UInt8)∉a)→∃ m,z1 l=m++ [10]∧fR 10 m=l
 | [a],_,h=>⟨a,by simp [z1],agE 10 a (h a aNo)⟩
 | a::b::r,_,h=>by
  obtain ⟨m,aR,a1⟩:=agC (b::r) (aPS _ _) λ x hx=>h x (aNe _ hx);refine ⟨a++10::m, ?_,by rw [agB 10 a m (h a aNo),a1]⟩;have:z1 (a::b::r)=a++10::z1 (b::r):=by simp [z1]
  rw [this,aR];simp
theorem Vw (m:List UInt8):Lib.hasSuffix (m++ [10]) [10]=true:=by
 unfold Lib.hasSuffix;rw [aQV];exact List.suffix_append m [10]
def kL (s:ByteArray):ByteArray:=az (Lib.trimSuffix s.data.toList [10])
theorem anj (h:¬ (65536<s.size∨300<(eF s).length)) (aC:¬ pc (eF s)=0):
  (cO 10 (kL (fY s))).length=pc (eF s)∧(∀ a∈cO 10 (kL (fY s)),NJ a)∧Lib.hasSuffix (fY s).data.toList [10]=true:=by
 have e:fY s=az (kJ (eF s) qJ):=aM4 h;have ay:=Ml (eF s) qJ;have aU:=Ra (eF s) qJ;rw [e,OZ];generalize C8 (eF s) qJ=l at ay aU;obtain ⟨m,aR,a1⟩:=agC l (λ e=>aC (by rw [← ay,e];rfl)) λ a ha=>(aU a ha).1;have cL:cO 10 (kL (az (z1 l)))=l.map az:=by
  unfold cO kL;rw [sr,sr,aR];unfold Lib.trimSuffix;rw [aNd (Vw m)];simp [a1]
 rw [cL];refine ⟨by rw [aNI,ay],λ a ha=> ?_,by rw [sr,aR];exact Vw m⟩;obtain ⟨x,hx,rfl⟩:=aNn.1 ha;exact (aU x hx).2
theorem ank (h:¬ (65536<s.size∨300<(eF s).length)) (aC:pc (eF s)=0):fY s=az []:=by
 have e:fY s=az (kJ (eF s) qJ):=aM4 h;have ay:=Ml (eF s) qJ;have zW:C8 (eF s) qJ= []:=aNv (by rw [ay,aC]);rw [e,OZ,zW];rfl
theorem ani (h:65536<s.size∨300<(eF s).length):fY s=az [101,114,114,111,114,32,50,10]:=aNd h
theorem VB {t:List (List UInt8)} (aD:t≠ []):∀ p:List (List UInt8),AJ (p++t)=p++AJ t
 | []=>rfl
 | h::p=>by rw [aPo,agR h (by intro e;exact aD (List.append_eq_nil_iff.1 e).2),VB aD p];rfl
theorem Ph (b:UInt8):∀ x y:List UInt8,fR b (x++b::y)=fR b x++fR b y
 | [],y=>AG b y
 | c::x,y=>by
  by_cases hc:c=b
  ·subst hc;rw [aPo,AG,AG,Ph c x y];rfl
  ·obtain ⟨p,t,e⟩:=AH b x;rw [aPo,xj hc (h:=p) (t:=t++fR b y) (by rw [Ph b x y,e];rfl),xj hc e];rfl
def IY (a:ByteArray):Prop:=a=az []∨Lib.hasSuffix a.data.toList [10]=true
theorem Yd (a b:ByteArray):(a++b).data.toList=a.data.toList++b.data.toList:=by simp
theorem avj (h:IY a) (b:ByteArray):eF (a++b)=eF a++eF b:=by
 rcases h with rfl | h
 ·rw [aep,aOA];congr 1
 ·unfold Lib.hasSuffix at h;rw [aQV] at h;obtain ⟨m,hm⟩:=h;rw [J6,J6,J6,Yd,← hm,aNB];have aR:fR 10 (m++([10]++b.data.toList))=fR 10 m++fR 10 b.data.toList:=Ph 10 m _;have a1:fR 10 (m++ [10])=fR 10 m++ [[]]:=Ph 10 m [];obtain ⟨p,t,e⟩:=AH 10 b.data.toList;rw [aR,a1,VB (by rw [e];exact aPS _ _),VB (aPS _ _)];have cL:AJ [[]]= []:=rfl;rw [cL,aNA,aNx]
theorem US:∀ (l m:List ByteArray) (T:bP),∃ r,kJ (l++m) T=kJ l T++r
 | [],m,T=>⟨kJ m T,rfl⟩
 | x::l,m,T=>by
  by_cases h:iC (eT x)=true
  ·obtain ⟨r,hr⟩:=US l m (T.line (eT x)).2;refine ⟨r, ?_⟩;show (if iC (eT x)=true then _++10::kJ (l++m) _ else _)=(if iC (eT x)=true then _ else _)++r;rw [aNd h,aNd h,hr];simp
  ·obtain ⟨r,hr⟩:=US l m T;refine ⟨r, ?_⟩;show (if iC (eT x)=true then _ else kJ (l++m) T)=(if iC (eT x)=true then _ else _)++r;rw [aM4 h,aM4 h,hr]
theorem aqj {b:ByteArray} (he:IY a) (h:¬ (65536<a.size+b.size∨300<(eF (a++b)).length)):Lib.hasPrefix (fY (a++b)).data.toList (fY a).data.toList=true:=by
 have ay:=avj he b;have aR:fY (a++b)=az (kJ (eF (a++b)) qJ):=aM4 (by rw [aOF];exact h);have a1:fY a=az (kJ (eF a) qJ):=aM4 (by
  rintro (k | k)
  ·exact h (.inl (by omega))
  ·exact h (.inr (by rw [ay,aM6];omega)))
 obtain ⟨r,hr⟩:=US (eF a) (eF b) qJ;rw [aR,a1,sr,sr,ay,hr];exact UY _ _
end
section
variable {a:ByteArray} {p q:Prop}
theorem Tm (s p:ByteArray) (w:World):Calls prog 14 #[.string s, .string p] w λ e w'=>e= .returned (.bool (Lib.hasPrefix s.data.toList p.data.toList))∧Ext w w' :=
 (strings_HasPrefix s p w).mono λ e w' k=>⟨k.1,by rw [k.2];exact Ext.bN w⟩
theorem abo (s p:ByteArray) (w:World) (hs:s.size≤4000000000):Calls prog 13 #[.string s, .string p] w λ e w'=>e= .returned (.bool (Lib.hasSuffix s.data.toList p.data.toList))∧Ext w w' :=
 (strings_HasSuffix s p w (by omega)).mono λ e w' k=>⟨k.1,by rw [k.2];exact Ext.bN w⟩
theorem az4 (s:ByteArray) (w:World) (hs:s.size≤4000000000):Calls prog 15 #[.string s, .string (az [10])] w λ e w'=>e= .returned (.string (kL s))∧Ext w w' :=
 (strings_TrimSuffix s (az [10]) w (by omega)).mono λ e w' k=>⟨k.1,by rw [k.2];exact Ext.bN w⟩
theorem az5 (s:ByteArray):(kL s).size≤s.size:=by
 unfold kL;rw [pd,aN3];unfold Lib.trimSuffix;split
 ·exact List.length_take_le' _ _
 ·exact aNk _
theorem aqF (h:NJ a) (k:((!decide (a=az [111,107]) && !Lib.hasPrefix a.data.toList (az [111,107,32]).data.toList) && !Lib.hasPrefix a.data.toList (az [101,114,114,111,114,32]).data.toList)=true):False:=by
 rw [sr,sr] at k;rcases h with h | h | h
 ·rw [h] at k;simp at k
 ·rw [h] at k;simp at k
 ·rw [h] at k;simp at k
theorem apE (a:ByteArray):IY (a++az [10]):= .inr (by rw [Yd,sr];exact Vw _)
theorem apF (h:(!decide (a=az []) && !Lib.hasSuffix a.data.toList (az [10]).data.toList)=false):IY a:=by
 rw [sr] at h;by_cases κ:a=az []
 ·exact .inl κ
 ·right;cases τ:Lib.hasSuffix a.data.toList [10] with
  | true=>rfl
  | false=>rw [aNu κ,τ] at h;cases h
theorem or_true [Decidable p] [Decidable q] (h:(decide p || decide q)=true):p∨q:=by simpa using h
theorem afq [Decidable p] [Decidable q] (h:(decide p || decide q)=false):¬ (p∨q):=by simpa using h
theorem MY  (w:World) (vY:k7 w):
  Calls prog 7 #[] w (λ e w'=>e= .returned (.bool true)∧Ext w w'):=by
 have ar:=fu.of vY;refine cx (n:=3) func7 Z Z Z ?_;refine aF<|aT Z<|aF<|ca Na Z Z ((Pb Ow _ (by decide) ar.dK).mono ?_);rintro e dk ⟨rfl,aG8,gH⟩;refine cF ?_;refine aa (kj underlying9 Z Z)<|bH Z<|cZ Z Z<| ?_;exact ⟨aOP (λ b=>Ending.returned (Value.bool b)) (aNp (p:=fY Ow=aen) au7),gH⟩
theorem anI (text:ByteArray) (w:World) (hh:text.size≤1048576) (vY:k7 w):
  Calls prog 5 #[.string text] w (λ e w'=>e= .returned (.bool true)∧Ext w w'):=by
 have ar:=fu.of vY;refine cx (n:=68) func5 Z Z Z ?_;refine aF<|aT Z<|aK Z<|ca Na Z Z ((Pb text _ (by omega) ar.dK).mono ?_);rintro e dk ⟨rfl,as0,gH⟩;refine cF ?_;refine aT Z<|aK Z<| ?_;have ar:=ar.later gH;refine ca aac Z Z ((aeq text _ (by omega) ar.dK).mono ?_);rintro e aho ⟨pS,Bq,rfl,qR⟩;refine cF ?_;have Hv:=J gH qR;refine vm Z<|b0 Z Z<|b0 Z Z<|va Z<|aT Z<|aI<|aF<| ?_;have ar:=ar.later qR;refine c0 Nb Z (MY _ ar.dK) λ EH l2=> ?_;have mL:=J Hv l2;refine aa (dD Z)<|vm Z<|il Z Z Z<|vm Z<|il Z Z Z<|aa (B5 underlying9 Z (by omega))<|il Z Z Z<|aa (hO Z Z)<|aa (oV Z Z)<|vm Z<|fS Z Z<|b9 Z (λ hc=>hO (gt hc Z) Z)<|aa (gv Z Z Z Z)<|aJ<| ?_;refine c1 Z (λ Ad=> ?_) (λ Ad=> ?_)
 ·have we:65536<text.size∨300<(eF text).length:=(or_true Ad).imp (by omega) (by omega);refine aF<| ?_;have ar:=ar.later l2;refine c0 Nb Z (MY _ ar.dK) λ uD gB=> ?_;have jV:=J mL gB;refine vm Z<|il Z Z Z<|vm Z<|il Z Z Z<|aa (kj underlying9 Z Z)<|aa (nY Z Z)<|bH Z<|cU<|cZ Z Z<| ?_;exact ⟨aOP (λ b=>Ending.returned (Value.bool b)) (aNp (ani we)),jV⟩
 ·have we:¬ (65536<text.size∨300<(eF text).length):=λ k=>afq Ad (k.imp (by omega) (by omega));refine bE<|aI<|aK Z<|aa (dr underlying22 Z)<|aa (beq Z Z)<|aJ<| ?_;refine lf Z (λ bK=> ?_) (λ bK=> ?_)
  ·have aC:pc (eF text)=0:=by omega
   refine aK Z<|aa (kj underlying9 Z Z)<|bH Z<|cU<|cZ Z Z<| ?_;exact ⟨aOP (λ b=>Ending.returned (Value.bool b)) (aNp (ank we aC)),mL⟩
  ·have aC:¬ pc (eF text)=0:=by omega
   obtain ⟨bd,bM,c3⟩:=anj we aC;refine bE<|aK Z<|c0 apd Z (az4 (fY text) _ (by omega)) λ hX gp=> ?_;have cY:=J mL gp;have T2:=az5 (fY text);have ar:=ar.later (J l2 gp);refine ca RX Z Z ((Vv ((kL (fY text))) 10 _ (by omega) ar.dK).mono ?_);rintro e AO ⟨pU,rfl,ry,Gq,gh,hy⟩;refine cF ?_;have nt:=J cY hy;have r_:k9 AO hX.heap.size (a_ pU) (cO 10 ((kL (fY text)))).length (cO 10 ((kL (fY text)))):=k9.of gh ry Gq;have JL:=Kz 10 ((kL (fY text)));refine aT Z<|aI<|aK Z<|aa (dr underlying26 Z)<|vm Z<|aJ<|bT<| ?_;have ar:=ar.later hy;refine gi (λ cJ cu aV=>∃ k:Nat,cu= [(3, .string (fY text)),(4, .slice pS ((pc (eF text))) Bq),(6, .slice (a_ pU) ((cO 10 ((kL (fY text)))).length) ((cO 10 ((kL (fY text)))).length)),(40, .slice (a_ pU) ((cO 10 ((kL (fY text)))).length) ((cO 10 ((kL (fY text)))).length)),(41,γ ((((cO 10 ((kL (fY text)))).length:Nat):Int))),(42,γ (k:Int))]∧cJ=(cO 10 (kL (fY text))).length - k∧Ext w aV∧fu w.heap.size aV∧k9 aV hX.heap.size (a_ pU) (cO 10 ((kL (fY text)))).length (cO 10 ((kL (fY text))))∧(k≤(cO 10 (kL (fY text))).length)) _ _ ⟨0,Z,Z,nt,ar,r_,by omega⟩ (eS Z Z Z) ?_;rintro ud ajr Hf ⟨k,rfl,rfl,nu,ar,r_,aj⟩;refine aF<|fB Z Z<|aJ<|aI<| ?_;refine fH Z (λ S2=> ?_) (λ S2=> ?_)
   ·refine bE<|aI<|bT<|aF<|aa (bX k underlying26 zX Z Z (r_.has.bw (aZ k)) Z (by omega))<|aa (aB Z (Φ.aQ.dj DI (r_.has.cg (aZ k)) (cj (l:=cO 10 ((kL (fY text)))) (u:=ByteArray.empty) (by omega)) Z Dh))<|aT Z<|aK Z<|aa (Fo underlying9 Z Z)<|vm Z<|fS Z Z<|s0 Z RY (λ hc=>fO (gt hc Z) (fO Z Z)) (λ hc=>Tm ((cO 10 ((kL (fY text)))).getD k ByteArray.empty) (az [111,107,32]) _) λ AP kd=> ?_;have nw:=J nu kd;refine b9 Z (λ hc=>dD (gt hc Z))<|aa (eZ Z Z Z Z)<|vm Z<|fS Z Z<|s0 Z RY (λ hc=>fO (gt hc Z) (fO Z Z)) (λ hc=>Tm ((cO 10 ((kL (fY text)))).getD k ByteArray.empty) (az [101,114,114,111,114,32]) _) λ AR pP=> ?_;have mK:=J nw pP;refine b9 Z (λ hc=>dD (gt hc Z))<|aa (eZ Z Z Z Z)<|aJ<| ?_;refine c1 Z (λ NS=> ?_) (λ NS=> ?_)
    ·exact (aqF (bM _ (mr (by omega))) NS).elim
    ·refine fZ<|cl<|eR Z Z Z<| ?_;have dW:=(J kd pP);have ar:=ar.later dW;have r_:=r_.later dW;exact eX ⟨k+1,Z,Z,mK,ar,r_,by omega⟩
   ·refine ej<|ei<|eU<|eh<|br<|aK Z<|aa (dr underlying26 Z)<|vm Z<|aa (dr underlying22 Z)<|aa (beq Z Z)<|vm Z<|fS Z Z<|s0 Z aad (λ hc=>fO (gt hc Z) (fO Z Z)) (λ hc=>abo (fY text) (az [10]) _ (by omega)) λ Cu iv=> ?_;have l6:=J nu iv;refine aa (eZ Z Z Z Z)<|bH Z<|cZ Z Z<| ?_;have amR:((((cO 10 (kL (fY text))).length:Nat):Int)== ((pc (eF text):Nat):Int))=true:=by rw [bd];exact beq_self_eq_true _
    exact ⟨aOP (λ b=>Ending.returned (Value.bool b)) (by rw [amR];exact c3),l6⟩
theorem aFE (a0 b:ByteArray) (w:World) (hh:a0.size+b.size≤1048576) (vY:k7 w):
  Calls prog 4 #[.string a0, .string b] w (λ e w'=>e= .returned (.bool true)∧Ext w w'):=by
 have ar:=fu.of vY;refine cx (n:=49) func4 Z Z Z ?_;refine aF<|aT Z<| ?_;refine KK (λ cu aV=>∃ a:ByteArray,cu= [(0, .string a),(1, .string b),(4, .bool false)]∧Ext w aV∧fu w.heap.size aV∧(a.size≤a0.size+1)∧(IY a)) ?_ ?_
 ·refine aK Z<|aa (Fo underlying9 Z Z)<|vm Z<|fS Z Z<|s0 Z aad (λ hc=>fO (gt hc Z) (fO Z Z)) (λ hc=>abo a0 (az [10]) _ (by omega)) λ dk gH=> ?_;refine b9 Z (λ hc=>dD (gt hc Z))<|aa (eZ Z Z Z Z)<|aJ<| ?_;refine c1 Z (λ abl=> ?_) (λ abl=> ?_)
  ·refine rg<|vm Z<|aa (v:= .string (a0++az [10])) (Ev Z Z (by rw [pd];simp only [aM1,aM5];omega))<|va Z<|nl<| ?_;have ar:=ar.later gH;exact my _ ⟨(a0++az [10]),Z,gH,ar,by rw [aOF];show a0.size+1≤_;omega,apE a0⟩ (ih Z)
  ·refine fZ<| ?_;have ar:=ar.later gH;exact my _ ⟨a0,Z,gH,ar,by omega,apF abl⟩ (ih Z)
 rintro aDQ Cv ⟨a,rfl,lB,ar,ha,he⟩;have abm:(a++b).size=a.size+b.size:=aOF;refine aK Z<|ca Na Z Z ((Pb a _ (by omega) ar.dK).mono ?_);rintro e fT ⟨rfl,as0,ea⟩;refine cF ?_;have b7:=J lB ea;refine vm Z<|vm Z<|aa (v:= .string (a++b)) (Ev Z Z (by omega))<| ?_;have ar:=ar.later ea;refine ca Na Z Z ((Pb (a++b) _ (by omega) ar.dK).mono ?_);rintro e uD ⟨rfl,acj,gB⟩;refine cF ?_;have jV:=J b7 gB;refine va Z<|aT Z<|aK Z<|vm Z<|aa (v:= .string (a++b)) (Ev Z Z (by omega))<| ?_;have ar:=ar.later gB;refine ca aac Z Z ((aeq (a++b) _ (by omega) ar.dK).mono ?_);rintro e y3 ⟨pS,Bq,rfl,ir⟩;refine cF ?_;have mJ:=J jV ir;refine vm Z<|b0 Z Z<|b0 Z Z<|va Z<|aT Z<|aI<|aF<| ?_;have ar:=ar.later ir;refine c0 Nb Z (MY _ ar.dK) λ y4 gw=> ?_;have iz:=J mJ gw;refine aa (dD Z)<|vm Z<|il Z Z Z<|vm Z<|il Z Z Z<|aa (B5 underlying9 Z (by omega))<|il Z Z Z<|vm Z<|il Z Z Z<|aa (B5 underlying9 Z (by omega))<|il Z Z Z<|fl Z Z<|il Z Z Z<|aa (hO Z Z)<|aa (oV Z Z)<|vm Z<|fS Z Z<|b9 Z (λ hc=>hO (gt hc Z) Z)<|aa (gv Z Z Z Z)<|aJ<| ?_;refine c1 Z (λ pq=> ?_) (λ pq=> ?_)
 ·refine aF<| ?_;have ar:=ar.later gw;refine c0 Nb Z (MY _ ar.dK) λ rW jU=> ?_;have hZ:=J iz jU;refine bH Z<|cU<|cZ Z Z<| ?_;exact ⟨Z,hZ⟩
 ·have we:¬ (65536<a.size+b.size∨300<(eF (a++b)).length):=λ k=>afq pq (k.imp (by omega) (by omega));refine bE<|aK Z<|vm Z<|c0 RY Z (Tm ((fY (a++b))) (fY a) _) λ uE iu=> ?_;have ke:=J iz iu;refine bH Z<|cZ Z Z<| ?_;exact ⟨aOP (λ b=>Ending.returned (Value.bool b)) (aqj he we),ke⟩
end
end Go.Proofs.YthlpmldmhakhaaaGreatDoor
