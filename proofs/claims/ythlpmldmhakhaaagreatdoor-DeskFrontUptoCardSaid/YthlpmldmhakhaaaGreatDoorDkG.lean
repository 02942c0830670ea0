import Derived.Test.YthlpmldmhakhaaaGreatDoorDkB
set_option linter.unusedVariables false
set_option linter.unusedSimpArgs false
set_option maxRecDepth 100000
set_option maxHeartbeats 4000000
open Go.RowKit
namespace Go.Proofs.YthlpmldmhakhaaaGreatDoor
open Tryz
abbrev aPp:=@List.drop_eq_nil_of_le
abbrev aQe:=@List.cons_ne_nil
abbrev aQq:=@List.isSuffixOf_iff_suffix
abbrev aQz:=@List.getElem_append_left
abbrev aQO:=@Go.Lib.count_hit
abbrev aQV:=@List.length_pos_iff
section
variable {b:UInt8}
theorem ab3 {l:List UInt8} (h:0<l.count b):∃ i:Nat,Lib.index l [b]=i:=by
 rcases Lib.index_spec l [b] with ⟨κ,bl⟩ | ⟨i,h,_⟩
 ·exfalso;obtain ⟨j,aw,e⟩:=aOj (aQ1.1 h);have:=bl j (by omega);unfold Lib.occAt at this;rw [aNs aw,e] at this;simp [List.isPrefixOf] at this
 ·exact ⟨i,h⟩
theorem Ra (b:UInt8):∀ l:List UInt8,Lib.count l [b]=l.count b
 | []=>Lib.count_miss ((wh b []).1 rfl)
 | x::l=>by
  have bu:=Ra b l;by_cases hx:x=b
  ·subst hx;have:=aQO (s:=x::l) (sub:= [x]) (i:=0) (by simp) (by rw [(wh x l).2.2];rfl);rw [this,aPG,aPn];simpa using bu
  ·rw [aOu hx];rcases aOo (l.count b) with aB | aB
   ·rw [aB];exact Lib.count_miss ((wh b (x::l)).1 (by rw [aOu hx,aB]))
   ·obtain ⟨i,ak⟩:=ab3 aB;have κ:=aQO (s:=x::l) (sub:= [b]) (i:=i+1) (by simp) ((wh b l).2.1 x hx i ak);have τ:=aQO (s:=l) (sub:= [b]) (i:=i) (by simp) ak;rw [κ,← bu,τ];simp
def dQ (b:UInt8) (s:ByteArray):List ByteArray:=(gu b s.data.toList).map aD
theorem Ml (s:ByteArray):aD s.data.toList=s:=by unfold aD;simp
theorem ay1 (b:UInt8) (s:ByteArray):Lib.splitB (aD [b]) 0 (Lib.countB s (aD [b])) s=dQ b s:=by
 have h:=Lib.splitB_data (aD [b]) 0 (Lib.countB s (aD [b])) s;have hc:Lib.countB s (aD [b])=s.data.toList.count b:=Ra b s.data.toList;rw [hc] at h ⊢;have e:(aD [b]).data.toList= [b]:=rfl;rw [e,U3] at h;unfold dQ;rw [← h,aO4]
 conv=>lhs;rw [← List.map_id (Lib.splitB (aD [b]) 0 (s.data.toList.count b) s)]
 exact aPN λ x _=>(Ml x).symm
theorem OX (b:UInt8):∀ (l x:List UInt8),x∈gu b l→x.length≤l.length
 | [],x,h=>by rw [af1] at h;rw [aMu.1 h];exact aMO _
 | y::l,x,h=>by
  by_cases aH:y=b
  ·subst aH;rw [B4] at h;rcases aMN.1 h with rfl | h
   ·exact aNl _
   ·have:=OX y l x h;rw [aMw];omega
  ·obtain ⟨p,t,e⟩:=Am b l;rw [An aH e] at h;rcases aMN.1 h with rfl | h
   ·have:=OX b l p (by rw [e];exact aM5);simp only [aMw];omega
   ·have:=OX b l x (by rw [e];exact aMK _ h);rw [aMw];omega
theorem U1 (b:UInt8):∀ l:List UInt8,(gu b l).length=l.count b+1
 | []=>rfl
 | x::l=>by
  by_cases hx:x=b
  ·subst hx;rw [B4,aMw,U1 x l,aPG]
  ·obtain ⟨p,t,e⟩:=Am b l;have:=U1 b l;rw [An hx e,aOu hx,← this,e];rfl
theorem OK (b:UInt8) (s:ByteArray):(dQ b s).length=s.data.toList.count b+1:=by unfold dQ;rw [aNf,U1]
theorem OJ (b:UInt8) (s:ByteArray):(dQ b s).length≤s.size+1:=by
 rw [OK,aNA];have:=List.count_le_length (a:=b) (l:=s.data.toList);omega
theorem Kh {s x:ByteArray} (h:x∈dQ b s):x.size≤s.size:=by
 unfold dQ at h;obtain ⟨l,ay,rfl⟩:=aMT.1 h;rw [pV,aNA];exact OX b _ l ay
theorem XE {w:World}:∀ l:List ByteArray,(∀ x∈l,x.size≤140737488351232)→dp (λ es a=>eU.has w es a) (l.map λ b=> [Value.string b]) l
 | [],_=>trivial
 | x::l,h=>⟨⟨rfl,h x aM5⟩,XE l λ y aH=>h y (aMK _ aH)⟩
theorem Z6:∀ l:List ByteArray,(l.map λ b=> [Value.string b]).flatten=l.map Value.string
 | []=>rfl
 | x::l=>by rw [aNc,aNc,aNr,Z6 l];rfl
theorem af4 (s:ByteArray) (b:UInt8) (w:World) (hs:s.size≤4000000000) (av:lv w):
  Calls prog 8 #[.string s, .string (aD [b])] w λ e w'=>∃ B,e= .returned (.slice (some ⟨B,0,none⟩) (dQ b s).length (dQ b s).length)∧w.heap.size≤B∧B<w'.heap.size∧eU.aQ 16 w' (some ⟨B,0,none⟩) (dQ b s).length (dQ b s)∧Ext w w':=by
 obtain ⟨m,hm⟩:=av.m;refine (strings_Split s (aD [b]) m w (by omega) hm (aMO _)).mono ?_;rintro e w' ⟨rfl,rfl⟩;have hc:Lib.countB s (aD [b])+1=(dQ b s).length:=by rw [OK,← Ra];rfl
 rw [ay1,hc];have aS:=aO.new w ((dQ b s).map Value.string) 9 (0,0);have ay:=OJ b s;refine ⟨w.heap.size,Z,aMO _,aS.lt, ?_,(aNb _ w).alloc (aMO _) _⟩;exact aO.zW aS ((dQ b s).map λ b=> [Value.string b]) (Z6 _) (XE _ λ x hx=>by have:=Kh hx;omega) (by omega) (by omega)
end
section
variable {w w':World} {az c j k:Nat} {A:Option Addr} {l ls ws:List ByteArray} {x:ByteArray}
structure mE (w:World) (az:Nat) (A:Option Addr) (c:Nat) (l:List ByteArray):Prop where
 has:eU.aQ 16 w A c l
 lt:∀ q∈Φ.ab A,az≤q∧q<w.heap.size
theorem mE.later (h:mE w az A c l) (x:Ext w w'):mE w' az A c l:=⟨h.has.keep x,λ q I=>⟨(h.lt q I).1,aN9 (h.lt q I).2 x.size⟩⟩
theorem mE.mod {S:List Nat} (h:mE w az A c l) (m:Mod S w w') (hd:∀ x∈Φ.ab A,x∉S):mE w' az A c l :=
 ⟨h.has.kl px.1 m λ _ q I hs=>hd q I hs,λ q I=>⟨(h.lt q I).1,aN9 (h.lt q I).2 m.size⟩⟩
theorem mE.of {B:Nat} (h:eU.aQ 16 w (some ⟨B,0,none⟩) c l) (κ:az≤B) (τ:B<w.heap.size):mE w az (some ⟨B,0,none⟩) c l:=⟨h,λ q I=>by rw [aMu.1 I];exact ⟨κ,τ⟩⟩
theorem mE.pre (h:mE w az A c l) (k:Nat):mE w az (Ki A k) c (l.take k):=⟨h.has.pre k,h.lt⟩
theorem Ext.QZ {aM b':World} {D:Nat} (z:Ext w aM) (x:Below D aM b') (h:w.heap.size≤D):Ext w b' :=
 ⟨x.os.trans z.os,x.tape.trans z.tape,x.output.trans z.output,aMR z.size x.size,λ k aj=>(x.block k (by omega)).trans (z.block k aj)⟩
def qk (l:List ByteArray):Nat:=((l.length:Int) - 1).toNat
def h_ (s:ByteArray):List ByteArray:=if (dQ 10 s).getD (qk (dQ 10 s)) ByteArray.empty=aD [] then (dQ 10 s).take (qk (dQ 10 s)) else dQ 10 s
theorem auH (s:ByteArray):(h_ s).length≤s.size+1:=by
 have:=OJ 10 s;unfold h_;split
 ·rw [aME];omega
 ·exact this
theorem auI {s:ByteArray} (h:x∈h_ s):x.size≤s.size:=by
 unfold h_ at h;split at h
 ·exact Kh (aOX h)
 ·exact Kh h
def z8 (x:ByteArray):Bool:= !decide (x=aD [])
def fJ (l:ByteArray):List ByteArray:=(dQ 32 l).filter z8
theorem aAL {l:ByteArray} (h:x∈fJ l):x.size≤l.size:=Kh (aNO.1 h).1
theorem ag5 {l:ByteArray} (h:x∈fJ l):0<x.size:=by
 have:=(aNO.1 h).2;unfold z8 at this;rcases aOo x.size with aB | aB
 ·exfalso;have e:x=aD []:=by
   rw [aNA] at aB;have:=aM3 aB;rw [← Ml x,this]
  rw [e] at this;simp at this
 ·exact aB
theorem apd {p:ByteArray→Bool} (h:j<l.length) (hp:p (l.getD j ByteArray.empty)=true):(l.take (j+1)).filter p=(l.take j).filter p++ [l.getD j ByteArray.empty]:=by
 rw [aMW h,aNv];rw [aMv,aMy h] at hp ⊢;have hp:p l[j]=true:=hp;congr 1;show List.filter p [l[j]]= [l[j]];simp [hp]
theorem apc {p:ByteArray→Bool} (h:j<l.length) (hp:p (l.getD j ByteArray.empty)=false):(l.take (j+1)).filter p=(l.take j).filter p:=by
 rw [aMW h,aNv];rw [aMv,aMy h] at hp;have hp:p l[j]=false:=hp;simp [hp]
def jP (ws:List ByteArray):Bool:=decide (0<ws.length) && decide ¬ (ws.getD 0 ByteArray.empty).data.toList.getD 0 0=35
noncomputable def lN:List ByteArray→b5→List UInt8
 | [],_=> []
 | l::r,T=>if jP (fJ l)=true then (T.line (fJ l)).1.data.toList++10::lN r (T.line (fJ l)).2 else lN r T
theorem awJ {T:b5} (h:k<ls.length) (bl:jP (fJ (ls.getD k ByteArray.empty))=true):lN (ls.drop k) T=(T.line (fJ (ls.getD k ByteArray.empty))).1.data.toList++10::lN (ls.drop (k+1)) (T.line (fJ (ls.getD k ByteArray.empty))).2:=by
 rw [aNs h];rw [aMv,aMy h] at bl ⊢;show (if _ then _ else _)=_;exact aMI bl
theorem awI {T:b5} (h:k<ls.length) (bl:jP (fJ (ls.getD k ByteArray.empty))=false):lN (ls.drop k) T=lN (ls.drop (k+1)) T:=by
 rw [aNs h];rw [aMv,aMy h] at bl;show (if _ then _ else _)=_;exact aMA (by rw [show jP (fJ ls[k])=false from bl];decide)
def B7:b5:=IL ⟨8,4,List.replicate 32 0⟩
noncomputable def qz (s:ByteArray):ByteArray:=if 65536<s.size∨300<(h_ s).length then aD [101,114,114,111,114,32,50,10] else aD (lN (h_ s) B7)
theorem agp {x:UInt8} (h:(x.toNat:Int)=35):x=35:=UInt8.toNat_inj.1 (by have:(35:UInt8).toNat=35:=rfl;omega)
theorem aeP (h:0<ws.length) (τ:¬ (ws.getD 0 ByteArray.empty).data.toList.getD 0 0=35):jP ws=true:=by unfold jP;rw [aMV h,aMV τ];rfl
theorem aeN (h:¬ 0<ws.length):jP ws=false:=by unfold jP;rw [aMY h];rfl
theorem aeO (τ:(ws.getD 0 ByteArray.empty).data.toList.getD 0 0=35):jP ws=false:=by unfold jP;rw [aMY (p:=¬ _) (λ h=>h τ)];exact aPI _
theorem awH {T:b5} {out:List UInt8} {a:List UInt8} (h:lN ls T=out++a) {x b:List UInt8} (e:a=x++10::b):lN ls T=(out++(x++ [10]))++b:=by rw [h,e];simp
theorem auD (x:ByteArray) (out:List UInt8):Lib.byteCells out++Lib.strCells (x++aD [10])=Lib.byteCells (out++(x.data.toList++ [10])):=by
 have e:Lib.strCells (x++aD [10])=Lib.byteCells (x.data.toList++ [10]):=by
  rw [Lib.strCells_eq];congr 1
 rw [e,← Lib.byteCells_append]
end
theorem aiF:dL prog eU 57 9 16:=dL.jw (z:= .string .empty) (k:=1) underlying57 DC rfl rfl (by decide) (λ j u h=>D9 j u h)
theorem ak9 (b:Nat) (l:List UInt8) (w:World) (h:iD w b (Lib.byteCells l)):Calls prog 12 #[.pointer (a_ b)] w λ e w'=>e= .returned (.string (aD l))∧Below b w w'∧True :=
 (Builder_String_any b b l w h (aQG h.lt)).mono λ e w' k=>⟨k.1,k.2,trivial⟩
theorem UJ (text:ByteArray) (w:World) (hE:text.size≤2000000) (zN:lv w):
  Calls prog 9 #[.string text] w (λ e w'=>e= .returned (.string (qz text))∧(qz text).size≤700000000∧Ext w w'):=by
 have av:=fL.of zN;refine cx (n:=72) func9 Z Z Z ?_;refine aG<|aU Z<|aN Z<|ca ZJ Z Z ((af4 text 10 _ (by omega) av.eb).mono ?_);rintro e dn ⟨xx,rfl,tG,NL,gm,gV⟩;refine cK ?_;have HD:mE dn w.heap.size (a_ xx) (dQ 10 text).length (dQ 10 text):=mE.of gm tG NL;have NS:=OJ 10 text;have vW:=OK 10 text;have aF8:qk (dQ 10 text)≤(dQ 10 text).length:=by unfold qk;omega
 have kQ:∀ q∈Φ.ab (a_ xx),q<dn.heap.size:=λ q I=>(HD.lt q I).2;refine aU Z<| ?_;refine Kr (λ cw aV=>∃ ls:List ByteArray,∃ rT:Option Addr,∃ c3:Nat,cw= [(0, .string text),(2, .string (aD [])),(3, .slice rT ls.length c3)]∧Ext w aV∧fL w.heap.size aV∧mE aV w.heap.size rT c3 (ls)∧(ls=h_ text)∧(∀ q∈Φ.ab rT,q<dn.heap.size)∧(dn.heap.size≤aV.heap.size)) ?_ ?_
 ·refine aN Z<|vm Z<|aa (dC underlying26 Z)<|aa (iH Z Z fN)<|aa (bX ((((((dQ 10 text).length:Nat):Int)) - 1).toNat) underlying26 Bg Z Z (HD.has.bx (a1 ((((((dQ 10 text).length:Nat):Int)) - 1).toNat))) (by omega) (by omega))<|aa (aA Z (Φ.aQ.dm F3 (HD.has.ck (a1 ((((((dQ 10 text).length:Nat):Int)) - 1).toNat))) (cl (l:=dQ 10 text) (u:=ByteArray.empty) (j:=qk (dQ 10 text)) (by unfold qk;omega)) Z Ft))<|aa (kP underlying9 Z Z)<|aJ<| ?_;refine c_ Z (λ oq=> ?_) (λ oq=> ?_)
  ·simp only [aNa,aNj,aMD,aMC] at oq;refine rg<|vm Z<|vm Z<|aa (dC underlying26 Z)<|aa (iH Z Z fN)<|aa (UN ((qk (dQ 10 text))) ((dQ 10 text).take ((qk (dQ 10 text)))).length underlying26 Bg Z Z (by unfold qk;omega) (by unfold qk;omega) (by rw [aME];omega))<|va Z<|nl<| ?_;have C1:h_ text=(dQ 10 text).take (qk (dQ 10 text)):=aMI oq;have av:=av.later gV;exact ml _ ⟨((dQ 10 text).take (qk (dQ 10 text))),(Ki (a_ xx) (qk (dQ 10 text))),(dQ 10 text).length,Z,gV,av,(HD.pre (qk (dQ 10 text))),C1.symm,kQ,by omega⟩ (ib Z)
  ·simp only [aNa,aNj,aMD,aMC] at oq;refine gb<| ?_;have C1:h_ text=dQ 10 text:=aMA oq;have av:=av.later gV;exact ml _ ⟨(dQ 10 text),(a_ xx),(dQ 10 text).length,Z,gV,av,HD,C1.symm,kQ,by omega⟩ (ib Z)
 rintro aCW uo ⟨ls,rT,c3,rfl,je,av,ly,Dt,ap6,i_⟩;have uf:=bY ly.lt;have arQ:∀ x∈ls,x.size≤text.size:=λ x hx=>auI (by rw [← Dt];exact hx);refine aI<|aN Z<|aa (DG underlying9 Z (by omega))<|aa (iv Z Z)<|vm Z<|gw Z Z<|cb Z (λ hc=>dC underlying26 (gt hc Z))<|cb Z (λ hc=>iv (gt hc Z) Z)<|aa (gq Z Z Z Z)<|aJ<| ?_;refine c_ Z (λ Dc=> ?_) (λ Dc=> ?_)
 ·simp only [aNa,aNj,aMD,aMC] at Dc;refine aG<|bL Z<|cW<|c' Z Z<| ?_;exact ⟨by unfold qz;rw [aMI (by rw [← Dt];omega)];rfl,(by unfold qz;rw [aMI (by rw [← Dt];omega)];decide),je⟩
 ·simp only [aNa,aNj,aMD,aMC] at Dc;refine bF<|aG<|dj aor Z λ yP pU gB atF AU=> ?_;have mC:=J je gB;have aJO:=AU.lt;refine aJ<|aG<|DL (R:=bz) (by_:=8) (B:=pU+1) (c:=32) (zv:=(γ 0)) (q:=0) Φ.q9 underlying46 wj Z Z (λ j u h=>Ak j u h) (λ _=>⟨Z,cH.2 (by decide)⟩) Z Z Z (by omega) (by omega) (by omega) λ rL vy eC atH CO=> ?_;have:=eC.size;have hU:=J mC eC;refine aa (v:= .agg #[γ 8,γ 4, .slice (a_ vy) 32 32]) (ht Z)<| ?_;have AU:=AU.later eC;refine ca ZH Z Z ((aac pU _ _ _ _ _ _ _ _ _ _ (⟨8,4,List.replicate 32 0⟩:au) _ _ _ AU CO (by decide) ⟨cH.2 (by decide),cH.2 (by decide)⟩).mono ?_);rintro e Ca ⟨rfl,ft,TR,f8,m8⟩;refine cK ?_;have:=m8.size;have oZ:=Ext.mod hU m8 bE;have aX:gN Ca pU ft B7:=TR;have aaw:∀ q∈Φ.ab rT,q<pU:=λ q I=>by have:=ap6 q I;omega
  refine aJ<|aG<|dj aos Z λ Cb nB lU adE y6=> ?_;have n2:=J oZ lU;refine aJ<|aI<|aN Z<|aa (dC underlying26 Z)<|vm Z<|aJ<|bV<| ?_;have av:=((av.later (J gB eC)).mod m8 (λ q I=>by have:=I;simp only [aMu] at this;omega)).later lU;have ly:=((ly.later (J gB eC)).mod m8 (bk uf)).later lU;have aX:=aX.later lU;refine gh (λ cL cw aV=>∃ k:Nat,∃ h:gM,∃ T:b5,∃ out:List UInt8,cw= [(2, .string (aD [])),(4, .pointer (a_ pU)),(5, .pointer (a_ nB)),(36, .slice rT ls.length c3),(37,γ (ls.length:Int)),(38,γ (k:Int))]∧cL=ls.length - k∧Ext w aV∧fL w.heap.size aV∧mE aV w.heap.size rT c3 (ls)∧gN aV pU h T∧iD aV nB (Lib.byteCells out)∧(k≤ls.length)∧(lN ls B7=out++lN (ls.drop k) T)∧(out.length≤k * 2100001)) _ _ ⟨0,ft,B7, [],Z,Z,n2,av,ly,aX,(iD.new y6),by omega,by simp,by simp⟩ (eV Z Z Z) ?_;rintro lh aC9 sN ⟨k,h,T,out,rfl,rfl,k1,av,ly,aX,aS,aj,bl,Gc⟩;have O_:=bY ly.lt;have aKu:=aS.lt;refine aG<|fI Z Z<|aJ<|aI<| ?_;refine fM Z (λ zT=> ?_) (λ zT=> ?_)
  ·refine bF<|aI<|bV<|aG<|aa (bX k underlying26 Bg Z Z (ly.has.bx (a1 k)) Z (by omega))<|aa (aA Z (Φ.aQ.dm F3 (ly.has.ck (a1 k)) (cl (l:=ls) (u:=ByteArray.empty) (by omega)) Z Ft))<|aU Z<|aG<|aU Z<|aI<|aN Z<| ?_;have aGd:(ls.getD k ByteArray.empty).size≤text.size:=arQ _ (mU (by omega));refine ca ZJ Z Z ((af4 (ls.getD k ByteArray.empty) 32 _ (by omega) av.eb).mono ?_);rintro e xd ⟨l1,rfl,nH,To,iI,iq⟩;refine cK ?_;have:=iq.size;have nk:=J k1 iq;have xG:mE xd sN.heap.size (a_ l1) (dQ 32 (ls.getD k ByteArray.empty)).length (dQ 32 (ls.getD k ByteArray.empty)):=mE.of iI nH To;have KE:=bY xG.lt;have abI:=OJ 32 (ls.getD k ByteArray.empty);have Gb:=OK 32 (ls.getD k ByteArray.empty);refine aa (dC underlying26 Z)<|vm Z<|aJ<|bV<| ?_;have aX:=aX.later iq;have aS:=aS.later iq;have aqh:=aX.lt;have av:=av.later iq;have ly:=ly.later iq;refine gh (λ cL cw aV=>∃ j:Nat,∃ ct:Option Addr,∃ co:Nat,∃ o:List ByteArray,cw= [(2, .string (aD [])),(4, .pointer (a_ pU)),(5, .pointer (a_ nB)),(7, .string (ls.getD k ByteArray.empty)),(8, .slice ct o.length co),(36, .slice rT ls.length c3),(37,γ (ls.length:Int)),(38,γ (k:Int)),(39, .bool (decide ((k:Int)<(ls.length:Int)))),(40, .pointer (some ⟨et rT,jO rT+k * 1,none⟩)),(41, .string (ls.getD k ByteArray.empty)),(42, .string (ls.getD k ByteArray.empty)),(43, .slice (a_ l1) ((dQ 32 (ls.getD k ByteArray.empty)).length) ((dQ 32 (ls.getD k ByteArray.empty)).length)),(44,γ ((((dQ 32 (ls.getD k ByteArray.empty)).length:Nat):Int))),(45,γ (j:Int))]∧cL=(dQ 32 (ls.getD k ByteArray.empty)).length - j∧Ext w aV∧fL w.heap.size aV∧mE aV w.heap.size rT c3 (ls)∧gN aV pU h T∧iD aV nB (Lib.byteCells out)∧mE aV sN.heap.size (a_ l1) (dQ 32 (ls.getD k ByteArray.empty)).length (dQ 32 (ls.getD k ByteArray.empty))∧eU.aL 9 16 aV xd.heap.size (Φ.ab ct) ct co (o)∧(j≤(dQ 32 (ls.getD k ByteArray.empty)).length)∧(o=((dQ 32 (ls.getD k ByteArray.empty)).take j).filter z8)∧(xd.heap.size≤aV.heap.size)∧(∀ q∈Φ.ab ct,q∈Φ.ab rT→False)∧(∀ q∈Φ.ab ct,q∈Φ.ab (a_ l1)→False)) _ _ ⟨0,none,0, [],Z,Z,nk,av,ly,aX,aS,xG,(Φ.aL.nil _),by omega,by simp,by omega,(λ q I af=>by (simp [Φ.ab] at I)),(λ q I af=>by (simp [Φ.ab] at I))⟩ (eV Z Z Z) ?_;rintro fY aiQ En ⟨j,ct,co,o,rfl,rfl,l0,av,ly,aX,aS,xG,bU,aw,jq,abW,zB,zC⟩;have azV:=bY ly.lt;have Vf:=bY xG.lt;have aGt:o.length≤j:=by rw [jq];exact aMR (aN1 _ _) (aOC _ _)
   refine aG<|fI Z Z<|aJ<|aI<| ?_;refine fM Z (λ aqy=> ?_) (λ aqy=> ?_)
   ·refine bF<|aI<|bV<|aG<|aa (bX j underlying26 Bg Z Z (xG.has.bx (a1 j)) Z (by omega))<|aa (aA Z (Φ.aQ.dm F3 (xG.has.ck (a1 j)) (cl (l:=dQ 32 (ls.getD k ByteArray.empty)) (u:=ByteArray.empty) (by omega)) Z Ft))<|aU Z<|aN Z<|aa (Ie underlying9 Z Z)<|aJ<| ?_;refine c_ Z (λ SQ=> ?_) (λ SQ=> ?_)
    ·refine rg<|vm Z<|vm Z<|b9 (e:= 9) (cs:= [.string ((dQ 32 (ls.getD k ByteArray.empty)).getD j ByteArray.empty)]) Z (λ _=>by kernel_rfl) Z λ Eo aEj pH atO W3=> ?_;have pJ:=J l0 pH;have axE:=W3.lt;have bU:=bU.later pH;refine ap aiF px bU (aO.fu (R:=eU) (by_:=16) (q:=(dQ 32 (ls.getD k ByteArray.empty)).getD j ByteArray.empty) W3 ⟨Z,(by have:=Kh (mU (l:=dQ 32 (ls.getD k ByteArray.empty)) (d:=ByteArray.empty) (k:=j) (by omega));omega)⟩ (by decide)) Z Z (by simp only [aMw,aMz];omega) (by simp only [aMw,aMz];omega) (by omega) Z λ Pn EJ Ik gT EZ FJ avX=> ?_;have:=gT.size;have xu:=Ext.mod pJ gT (λ q I=>aMR (by omega) (bU.lt q I).1);refine va Z<|nl<|cm<|eR Z Z Z<| ?_;have av:=(av.later pH).mod gT (λ q I=>by have:=(λ q I=>aMR (by omega) (bU.lt q I).1) q I;omega);have ly:=(ly.later pH).mod gT (fX zB);have aX:=(aX.later pH).mod gT (λ q I=>by have:=(bU.lt q I).1;exact ⟨by omega,λ hf=>by have:=(aqh q hf).2;omega⟩);have aS:=(aS.later pH).mod gT (λ q I=>⟨by have:=(bU.lt q I).1;omega,λ bl=>(D5 bU q I).ne bl rfl rfl⟩);have xG:=(xG.later pH).mod gT (fX zC);exact fh ⟨j+1,EJ,Ik,o++ [(dQ 32 (ls.getD k ByteArray.empty)).getD j ByteArray.empty],Z,Z,xu,av,ly,aX,aS,xG,EZ,by omega,by rw [apd (p:=z8) (by omega) (by unfold z8;exact SQ),← jq],by omega,(λ q I af=>by (exact aMS (FJ q I) (λ adm=>by (exact zB q adm af)) (λ adm=>by (have:=azV q af;have:=uf q af;omega)))),(oJ FJ zC Vf)⟩
    ·refine gb<|cm<|eR Z Z Z<| ?_;exact fh ⟨j+1,ct,co,o,Z,Z,l0,av,ly,aX,aS,xG,bU,by omega,by rw [apc (p:=z8) (by omega) (by unfold z8;exact SQ),← jq],by omega,zB,zC⟩
   ·have hw:o=fJ (ls.getD k ByteArray.empty):=by rw [jq,aMU (by omega)];rfl
    refine er<|ep<|eY<|eo<|br<|aN Z<|aa (dC underlying57 Z)<|aa (iv Z Z)<|vm Z<|gw Z Z<|cb Z (λ hc=>bX 0 underlying57 Bg (gt hc Z) Z (bU.has.bx (a1 0 (by (try simp only [cq] at hc);omega))) Z (by (try simp only [cq] at hc);omega))<|cb Z (λ hc=>aA (gt hc Z) (Φ.aQ.dm F3 (bU.has.ck (a1 0 (by (try simp only [cq] at hc);omega))) (cl (l:=o) (u:=ByteArray.empty) (j:=0) (by (try simp only [cq] at hc);omega)) Z Ft))<|cb Z (λ hc=>Kp underlying9 (gt hc Z) Z (by omega) (O3 (s:=o.getD 0 ByteArray.empty) (k:=0) (ag5 (l:=ls.getD k ByteArray.empty) (by rw [← hw];exact mU (by (try simp only [cq] at hc);omega)))))<|cb Z (λ hc=>bne (gt hc Z) Z)<|aa (fG Z Z Z Z)<|aJ<| ?_;refine c_ Z (λ Jc=> ?_) (λ Jc=> ?_)
    ·simp only [cq] at Jc;have dk:jP o=true:=aeP (by omega) (λ e=>Jc.2 (by rw [e];rfl));refine rg<|vm Z<|ca aot Z Z ((auC pU w.heap.size h T _ _ o _ aX bU.has (λ q I=>(bU.lt q I).2) (λ x hx=>by have:=aAL (show x∈fJ _ by rw [← hw];exact hx);omega) av (by omega)).mono ?_);rintro e Ps ⟨rfl,aDE,Nw⟩;refine cK ?_;have zV:=aX.akZ aS;obtain ⟨o',Gp,f9,m9⟩:=Nw;have Se:∀ q∈pU::h.cA,pU≤q:=λ q I=>by rcases aMN.1 I with I | I;omega;have:=(aX.lt q I).1;omega
     have qK:=Ext.mod l0 m9 (λ q I=>by have:=Se q I;omega);refine aa (v:= .string ((T.line o).1++aD [10])) (Eb Z Z (by rw [pV];simp only [aMw,aMz];omega))<| ?_;have aS:=aS.mod m9 zV;refine ca aou Z Z ((ala nB _ (((T.line o).1++aD [10])) _ aS (by rw [Lib.byteCells_length,aOa,pV];simp only [aMw,aMz];omega)).mono ?_);rintro e agV ⟨rfl,aay,hK⟩;refine cK ?_;obtain ⟨ajm,Oe,Nv⟩:=hK;have aqE:=Gp.atr aS Nv;have Sf:∀ q∈nB::ajm,nB≤q:=λ q I=>by rcases aMN.1 I with I | I;omega;exact (Nv q I).1
     have Wh:=Ext.mod qK Oe (λ q I=>by have:=Sf q I;omega);rw [auD] at aay;refine nl<|cm<|eR Z Z Z<| ?_;have av:=(av.mod m9 (λ q I=>by have:=(λ q I=>by have:=Se q I;omega) q I;omega)).mod Oe (λ q I=>by have:=(λ q I=>by have:=Sf q I;omega) q I;omega);have ly:=(ly.mod m9 (λ q I hs=>by have:=aaw q I;have:=Se q hs;omega)).mod Oe (λ q I hs=>by have:=aaw q I;have:=Sf q hs;omega);have Gp:=Gp.mod Oe aqE;exact fh ⟨k+1,o',(T.line o).2,(out++((T.line o).1.data.toList++ [10])),Z,Z,Wh,av,ly,Gp,aay,by omega,awH bl (by rw [hw];exact awJ (by omega) (by rw [← hw];exact dk)),by simp only [aMB,aMw,aMz,← aNA];omega⟩
    ·simp only [cq] at Jc;have dk:jP o=false:=Jc.elim (λ h=>aeN (by omega)) (λ h=>aeO (agp h));refine gb<|cm<|eR Z Z Z<| ?_;exact fh ⟨k+1,h,T,out,Z,Z,l0,av,ly,aX,aS,by omega,by rw [bl,awI (by omega) (by rw [← hw];exact dk)],aMR Gc (aNh _ (Nat.le_succ k))⟩
  ·refine er<|ep<|eY<|eo<|br<|aG<|ca aov Z Z ((ak9 nB out _ aS).mono ?_);rintro e Er ⟨rfl,Gk,_⟩;refine cK ?_;have z9:=Ext.QZ k1 Gk (by omega);refine bL Z<|c' Z Z<| ?_;exact ⟨by unfold qz;rw [aMA (by rw [← Dt];omega),← Dt,bl,aPp (by omega)];simp [lN];rfl,(by unfold qz;rw [aMA (by rw [← Dt];omega),← Dt,bl,aPp (by omega),pV,aMB];show out.length+0≤_;omega),z9⟩
structure Kept (W V:ae):Prop where
 field:V.field=W.field
 bj:V.bj=W.bj
 now:V.now=W.now
 next:V.next=W.next+((V.ah.length:Int) - W.ah.length)
 len:W.ah.length≤V.ah.length
 old:∀ (i:Nat) (t:a8),W.ah[i]? =some t→∃ u:a8,V.ah[i]? =some u∧ {u with load:=t.load}=t
 new:∀ (i:Nat) (u:a8),W.ah.length≤i→V.ah[i]? =some u→W.next≤u.id
def aeY:List c9→List Bool→List c9
 | d::l,b::b9=>if b then d::aeY l b9 else aeY l b9
 | _,_=> []
theorem azg {W:ae} (h:W.a7=0):ub W []=W∧yI W []= []:=by
 have aR:=X9 (l:= []) h (by decide);have hS:=aga aR;have dN:fE W []=List.replicate W.ah.length 0:=by unfold fE;rw [aR];rfl
 have hu:z6 W []=W.ah:=by
  apply aOd;intro i;cases aC:W.ah[i]? with
  | none =>
   have:=List.getElem?_eq_none_iff.1 aC;rw [aPv (by rw [NZ];exact this)]
  | some t =>
   rw [NY aC,dN];have:(List.replicate W.ah.length (0:Int)).getD i 0=0:=by
    rw [aMv,aN3];split<;>rfl
   rw [this,Int.sub_zero]
 have hf:∀ t∈W.ah,0<t.df:=λ t aC=>by have:=(hS.g_.each aC).2.2.df;omega
 constructor
 ·rw [hS.b8,hu,List.filter_eq_self.2 λ t aC=>aMV (hf t aC)]
 ·rw [hS.av,hu,List.filter_eq_nil_iff.2 λ t aC=>by simp [hf t aC]];rfl
theorem ana {W:ae} (h:W.a7=0):W.si []=W∧W.vE []= []:=⟨Rl h (by decide),MJ h (by decide)⟩
def aKN:List bC:= [⟨0,3,1,⟨2,0⟩,0⟩]
def aKO:ae:=⟨⟨3,1, [0,0,3]⟩, [⟨0,0⟩], [20], [0,0,8], [⟨1,0,1,⟨1,0⟩,10,1⟩],2,1⟩
section
variable {o ws:List ByteArray} {qV:b5}
open Go.RowKit Go.Proofs.YthlpmldmhakhaaaGreatDoor.qM
def ql:au:=⟨8,4,List.replicate 32 0⟩
def TZ:ae:=⟨ql, [], [],List.replicate 32 0, [],1,0⟩
def Ob:ae:=⟨ql, [⟨0,0⟩], [7],List.replicate 32 0, [],1,0⟩
def jv:ae:=⟨ql, [⟨0,0⟩], [7],List.replicate 32 0, [⟨1,0,1,⟨1,1⟩,10,0⟩],2,0⟩
def oC:List bC:= [⟨0,2,1,⟨3,1⟩,0⟩]
def tN:ae:=⟨ql, [⟨0,0⟩], [7],List.replicate 32 0, [⟨1,0,1,⟨2,1⟩,10,0⟩],2,1⟩
theorem auu:B7=⟨TZ, []⟩:=rfl
theorem X5 {T:b5} {V:ae} (h:V.a7=0):T.CU V o=⟨0,o, {T with W:=V}⟩:=aMA (by rw [h];decide)
theorem aun:b5.done ⟨TZ, []⟩ [aD [98,97,115,101],aD [48],aD [48],aD [55]]=⟨0,en [0],⟨Ob, []⟩⟩:=
 (tl (by decide +kernel) rfl).trans ((c7 (l:= [0,0,7]) (by decide +kernel)).trans (X5 (T:=⟨TZ, []⟩) (V:=Ob) (o:=en [0]) (by decide +kernel)))
theorem auo:b5.done ⟨Ob, []⟩ [aD [116,114,111,111,112],aD [48],aD [49],aD [49],aD [49]]=⟨0,en [1],⟨jv, []⟩⟩:=by
 refine (tq (by decide +kernel) (by decide +kernel) Z).trans ((c7 (l:= [0,1,1,1]) (by decide +kernel)).trans ?_);unfold b5.yK;exact (aMA (by decide)).trans (X5 (T:=⟨Ob, []⟩) (V:=jv) (o:=en [1]) (by decide +kernel))
theorem aup:b5.done ⟨jv, []⟩ [aD [103,111],aD [48],aD [49],aD [51],aD [49]]=⟨0, [],⟨jv,oC⟩⟩:=by
 refine (zE (by decide +kernel) (by decide +kernel) (by decide +kernel) (by decide +kernel)).trans ((c7 (l:= [0,1,3,1]) (by decide +kernel)).trans ?_);have e:oI (aD [103,111]) [0,1,3,1]=⟨0,2,1,⟨3,1⟩,0⟩:=by decide +kernel
 rw [e];exact (aMA (by decide +kernel)).trans (aMA (by decide))
theorem aus:eH ql ⟨1,1⟩ ⟨3,1⟩=0∧cQ ql ⟨1,1⟩ ⟨3,1⟩= [⟨1,1⟩,⟨2,1⟩,⟨3,1⟩]:=by
 obtain ⟨κ,τ,aq⟩:=api (f:=ql) (a:=⟨1,1⟩) (b:=⟨3,1⟩) (far:= [-1, -1, -1, -1, -1, -1, -1, -1, -1,0,2,4, -1, -1, -1, -1, -1, -1, -1, -1, -1, -1, -1, -1, -1, -1, -1, -1, -1, -1, -1, -1]) (cert (dl:= [4,2,4,6,8,10,12,14,2,0,2,4,6,8,10,12,4,2,4,6,8,10,12,14,6,4,6,8,10,12,14,16]) (by decide +kernel)) (by decide +kernel) (by decide +kernel) (by decide +kernel) (by decide +kernel);exact ⟨κ,aq.trans (by decide +kernel)⟩
theorem auv:b5.B9 ⟨jv,oC⟩=⟨0, [aD [47],aD [49],aD [47]],⟨tN, []⟩⟩:=by
 have hc:jv.a7=0:=by decide +kernel
 have Zl:hi jv oC oC.length= []:=by decide +kernel
 have ZT:hj jv oC oC.length= [⟨1,⟨3,1⟩⟩]:=by decide +kernel
 have Zm:hQ jv oC oC.length= []:=by decide +kernel
 have aR:jb jv oC=0:=by decide +kernel
 obtain ⟨kt,z2,z3,z4⟩:=O6 aR;obtain ⟨s1,s2⟩:=azg hc;have t1:wW jv oC=jv:=by unfold wW;rw [Zl];exact s1
 obtain ⟨f1,f2⟩:=aus;have hs:step1 ql [⟨1,⟨3,1⟩⟩] jv.ah 0=some ⟨2,1⟩:=by
  have g1:ei [⟨1,⟨3,1⟩⟩] (jv.ah.getD 0 default).id=0:=by decide +kernel
  have g2:(jv.ah.getD 0 default).spot=⟨1,1⟩:=rfl;unfold step1;rw [g1,g2];show (if (0:Int)<0 then _ else if eH ql ⟨1,1⟩ ⟨3,1⟩≠0 then _ else if (cQ ql ⟨1,1⟩ ⟨3,1⟩).length<2 then _ else if 0<ia jv.ah ((cQ ql ⟨1,1⟩ ⟨3,1⟩).getD 1 default) then _ else some ((cQ ql ⟨1,1⟩ ⟨3,1⟩).getD 1 default))=_;rw [f1,f2];rfl
 have hS:iA ql [⟨1,⟨3,1⟩⟩] jv.ah 1=([⟨1,0,1,⟨2,1⟩,10,0⟩], [1]):=(GQ rfl hs).trans rfl;have m0:=J8 (l:= [⟨1,⟨3,1⟩⟩]) hc (by decide);have m1:jv.kY [⟨1,⟨3,1⟩⟩]=({tN with now:=0}, [1]):=by
  show (({jv with ah:=(iA ql [⟨1,⟨3,1⟩⟩] jv.ah 1).1}:ae),(iA ql [⟨1,⟨3,1⟩⟩] jv.ah 1).2)=_;rw [hS];rfl
 have t2:yL jv oC= {tN with now:=0}:=by unfold yL;rw [t1,ZT,m0.2.1,m1]
 obtain ⟨d1,d2⟩:=ana (W:= {tN with now:=0}) (by decide +kernel);have t3:pA jv oC= {tN with now:=0}:=by unfold pA;rw [t2,Zm];exact d1
 have aM:ie jv oC=tN:=by rw [kt,t3];rfl
 have b':oO jv oC= []:=by rw [z2,Zl];exact s2
 have w3:oP jv oC= [1]:=by rw [z3,t1,ZT,m0.2.2,m1]
 have nU:mv jv oC= []:=by rw [z4,t2,Zm];exact d2
 unfold b5.B9;refine (aMA (by rw [aR];decide)).trans ?_;rw [aM,b',w3,nU];have e:en []++ [aD [47]]++en [1]++ [aD [47]]++List.map Cn []= [aD [47],aD [49],aD [47]]:=by decide +kernel
 rw [e]
theorem auq:b5.done ⟨jv,oC⟩ [aD [116,117,114,110]]=⟨0, [aD [47],aD [49],aD [47]],⟨tN, []⟩⟩:=
 (tr (by decide +kernel) (by decide +kernel) (by decide +kernel) (by decide +kernel) rfl).trans ((c7 (l:= []) (by decide +kernel)).trans auv)
theorem aur:b5.done ⟨tN, []⟩ [aD [116,114,111,111,112,115]]=⟨0, [aD [49,44,48,44,49,44,50,44,49,44,49,48,44,48]],⟨tN, []⟩⟩:=by
 refine (zF (by decide +kernel) (by decide +kernel) (by decide +kernel) (by decide +kernel) (by decide +kernel) Z).trans ((c7 (l:= []) (by decide +kernel)).trans ?_);have e:tN.ah.map ue= [aD [49,44,48,44,49,44,50,44,49,44,49,48,44,48]]:=by decide +kernel
 show (⟨0,tN.ah.map ue,⟨tN, []⟩⟩:pS)=_;rw [e]
theorem auE {T:b5} (h:T.done ws=⟨0,o,qV⟩):T.line ws=(mb (wQ::o) (aD [32]),qV):=by
 unfold b5.line L5;rw [h];rfl
theorem Kf {T:b5} {l:ByteArray} {r:List ByteArray} {x:List UInt8} (hw:fJ l=ws) (bl:jP ws=true) (h:T.done ws=⟨0,o,qV⟩) (aw:(mb (wQ::o) (aD [32])).data.toList=x):lN (l::r) T=x++10::lN r qV:=by
 show (if jP (fJ l)=true then _ else _)=_;rw [hw,aMI bl,auE h,aw]
def Oa:ByteArray:=aD [98,97,115,101,32,48,32,48,32,55,10,116,114,111,111,112,32,48,32,49,32,49,32,49,10,103,111,32,48,32,49,32,51,32,49,10,116,117,114,110,10,116,114,111,111,112,115,10]
def adQ:ByteArray:=aD [111,107,32,48,10,111,107,32,49,10,111,107,10,111,107,32,47,32,49,32,47,10,111,107,32,49,44,48,44,49,44,50,44,49,44,49,48,44,48,10]
theorem adR:h_ Oa= [aD [98,97,115,101,32,48,32,48,32,55],aD [116,114,111,111,112,32,48,32,49,32,49,32,49],aD [103,111,32,48,32,49,32,51,32,49],aD [116,117,114,110],aD [116,114,111,111,112,115]]:=by decide +kernel
theorem aut:qz Oa=adQ:=by
 unfold qz;rw [aMA (by rw [adR];decide +kernel),adR,auu];rw [Kf (x:= [111,107,32,48]) (ws:= [aD [98,97,115,101],aD [48],aD [48],aD [55]]) (by decide +kernel) (by decide +kernel) aun (by decide +kernel)];rw [Kf (x:= [111,107,32,49]) (ws:= [aD [116,114,111,111,112],aD [48],aD [49],aD [49],aD [49]]) (by decide +kernel) (by decide +kernel) auo (by decide +kernel)];rw [Kf (x:= [111,107]) (ws:= [aD [103,111],aD [48],aD [49],aD [51],aD [49]]) (by decide +kernel) (by decide +kernel) aup (by decide +kernel)];rw [Kf (x:= [111,107,32,47,32,49,32,47]) (ws:= [aD [116,117,114,110]]) (by decide +kernel) (by decide +kernel) auq (by decide +kernel)];rw [Kf (x:= [111,107,32,49,44,48,44,49,44,50,44,49,44,49,48,44,48]) (ws:= [aD [116,114,111,111,112,115]]) (by decide +kernel) (by decide +kernel) aur (by decide +kernel)];rfl
end
structure H3 where
 a:Option Addr
 n:Nat
 c:Nat
instance:Inhabited H3:=⟨⟨none,0,0⟩⟩
def O5:Φ H3:=Φ.flat 1 (λ v=> [.slice v.a v.n v.c]) (λ _=>True) (λ _ u=>∃ a n c,u= .slice a n c) (λ _=>rfl) (by intro a u hu;simp at hu;subst hu;rfl) (by
 intro a j u hu;cases j with
 | zero=>simp at hu;exact ⟨_,_,_,hu.symm⟩
 | succ j=>simp at hu)
theorem axR:∀ (j:Nat) u,(Value.slice none 0 0).cells[j]? =some u→O5.raw j u:=by
 intro j u hu;have hu:(#[(.slice none 0 0:Value)]:Array Value)[j]? =some u:=hu
 match j,hu with
 | 0,hu=>exact ⟨_,_,_,(aMJ hu).symm⟩
 | j+1,hu=>simp at hu
section
variable {k n:Nat} {a b:ByteArray}
theorem aiA:dL prog eU 26 9 16:=dL.jw (z:= .string .empty) (k:=1) underlying26 DC rfl rfl (by decide) (λ j u h=>D9 j u h)
theorem aiz:dL prog O5 22 26 24:=dL.jw (z:= .slice none 0 0) (k:=1) underlying22 (by kernel_rfl) rfl rfl (by decide) (λ j u h=>axR j u h)
section
variable {P:Program} {E:List (Nat×Value)} {w w':World} {d:Option Nat} {ty:TypeId} {pos:String} {aW:Array Edge} {g:Option (Nat×Bool)} {x y z:Operand} {t u:TypeId}
theorem ays {s:ByteArray} {i j:Int} (lo ak:Nat) (aC:P.underlying t=some .string) (hx:ev E x=some (.string s)) (aH:ev E y=some (γ i)) (bo:ev E z=some (γ j)) (κ:i=(lo:Int)) (τ:j=(ak:Int)) (aq:lo≤ak) (bb:ak≤s.size):cF P E ⟨d, .slice t x (some y) (some z) none,ty,pos,aW,g⟩ w (.string (s.extract lo ak)) w:=λ n a ha=>by
 subst κ;subst τ;have dt:=run_slice_string (P:=P) (w:=w) t s .i64 .i64 (lo:Int) (ak:Int) aC (by omega) (by omega) (by omega);have ey:=run_sliceAt_string (P:=P) (w:=w) t (.string s) (some (γ (lo:Int))) (some (γ (ak:Int))) none aC;simp only [execOp,ha.ev hx,ha.ev aH,ha.ev bo,Option.map,ey,dt,aML,aMG,aMP,aNE]
theorem alc (cur:List UInt8) {s:ByteArray} (h:k<s.size):aD cur++s.extract k (k+1)=aD (cur++ [s.data.toList.getD k 0]):=by
 have cp:k<s.data.toList.length:=by rw [← aNA];exact h
 have e:(s.extract k (k+1)).data.toList= [s.data.toList.getD k 0]:=by
  rw [aMv,aMy cp];simp only [ByteArray.data_extract,Array.toList_extract,List.extract_eq_take_drop];rw [aNs cp];simp
 rw [← Ml (s.extract k (k+1)),e];unfold aD;apply ByteArray.ext;simp
theorem ayS {cur:List UInt8} {s:ByteArray} (hx:ev E x=some (.string (aD cur))) (aH:ev E y=some (.string (s.extract k (k+1)))) (aj:k<s.size) (h:cur.length+1≤9223372036854775807):cF P E ⟨d, .binOp .add t x y u,ty,pos,aW,g⟩ w (.string (aD (cur++ [s.data.toList.getD k 0]))) w:=by
 rw [← alc cur aj];exact Eb hx aH (by rw [pV,ByteArray.size_extract];omega)
end
def wf:List UInt8→List UInt8→List (List UInt8)
 | _, []=> []
 | cur,x::l=>if x=32 then (if cur= [] then [] else [cur])++wf [] l else wf (cur++ [x]) l
theorem VM:∀ (l cur h:List UInt8) (t:List (List UInt8)),gu 32 l=h::t→wf cur (l++ [32])=((cur++h)::t).filter λ x=>decide (x≠ [])
 | [],cur,h,t,e=>by
  rw [af1] at e;cases e
  show (if (32:UInt8)=32 then _ else _)=_;rw [aMI rfl,aM4];by_cases hc:cur= []<;>simp [hc,wf]
 | x::l,cur,h,t,e=>by
  obtain ⟨p,r,a6⟩:=Am 32 l;show (if x=32 then (if cur= [] then [] else [cur])++wf [] (l++ [32]) else wf (cur++ [x]) (l++ [32]))=_;by_cases hx:x=32
  ·subst hx;rw [B4] at e;cases e
   rw [aMI rfl,VM l [] p r a6,a6,aM4,aN4];by_cases hc:cur= []<;>simp [hc]
  ·rw [An hx a6] at e;injection e with cM iV
   subst cM;subst iV;rw [aMA hx,VM l (cur++ [x]) p _ a6];simp
theorem aAM (s:ByteArray):fJ s=(wf [] (s.data.toList++ [32])).map aD:=by
 obtain ⟨h,t,e⟩:=Am 32 s.data.toList;rw [VM _ [] h t e,aN4,← e];unfold fJ dQ;rw [List.filter_map];congr 1;apply List.filter_congr;intro x _;show z8 (aD x)=_;unfold z8;by_cases hx:x= []
 ·subst hx;rfl
 ·have:¬ aD x=aD []:=λ e=>hx (Mj e);simp [hx,this]
section
variable {s:ByteArray} {cur:List UInt8} {i:Nat} {o:List ByteArray}
theorem aAN (ak:i<s.size) (hx:¬ s.data.toList.getD i 0=32) (h:fJ s=o++(wf cur ((s.data.toList++ [32]).drop i)).map aD):fJ s=o++(wf (cur++ [s.data.toList.getD i 0]) ((s.data.toList++ [32]).drop (i+1))).map aD:=by
 rw [h];have ay:i<s.data.toList.length:=by rw [← aNA];exact ak
 have nH:i<(s.data.toList++ [32]).length:=by simp only [aMB];omega
 have e:(s.data.toList++ [32])[i]=s.data.toList.getD i 0:=by
  rw [aMv,aMy ay,aQz ay];rfl
 rw [aNs nH,e];congr 2;exact aMA hx
theorem ag8 (ak:i≤s.size) (hx:i<s.size→s.data.toList.getD i 0=32) (h:fJ s=o++(wf cur ((s.data.toList++ [32]).drop i)).map aD):fJ s=(o++(if cur= [] then [] else [aD cur]))++(wf [] ((s.data.toList++ [32]).drop (i+1))).map aD:=by
 rw [h];have nH:i<(s.data.toList++ [32]).length:=by simp only [aMB,aMw,aMz];rw [← aNA];omega
 have e:(s.data.toList++ [32])[i]=32:=by
  by_cases ay:i<s.data.toList.length
  ·rw [aQz ay];have:=hx (by rw [aNA];exact ay);rw [aMv,aMy ay] at this;exact this
  ·rw [List.getElem_append_right (by omega)];simp
 rw [aNs nH,e];show _++(if (32:UInt8)=32 then _ else _:List (List UInt8)).map aD=_;rw [aMI rfl,aM0,aM6];by_cases hc:cur= []<;>simp [hc]
end
theorem avY (h:(!decide (aD []=aD []))=true):False:=by simp at h
theorem avZ (h:(!decide (a=b))=true):¬ a=b:=by simpa using h
theorem aez (h:(!decide (a=b))=false):a=b:=by simpa using h
theorem azH {x:UInt8} {b:UInt8} (af:b.toNat=n) (h:¬ (x.toNat:Int)=n):¬ x=b:=λ e=>h (by rw [e,af])
theorem azG {x:UInt8} {b:UInt8} (af:b.toNat=n) (h:(x.toNat:Int)=n):x=b:=UInt8.toNat_inj.1 (by omega)
def Ap (p:List (List UInt8)):List (List UInt8):=if p.getD (((p.length:Int) - 1).toNat) []= [] then p.take (((p.length:Int) - 1).toNat) else p
theorem JQ (s:ByteArray):h_ s=(Ap (gu 10 s.data.toList)).map aD:=by
 obtain ⟨h,t,e⟩:=Am 10 s.data.toList;unfold h_ Ap dQ qk;rw [aNf];have ay:(((gu 10 s.data.toList).length:Int) - 1).toNat<(gu 10 s.data.toList).length:=by rw [e,aMw];omega
 generalize (((gu 10 s.data.toList).length:Int) - 1).toNat=k at ay ⊢;have aR:((gu 10 s.data.toList).map aD).getD k ByteArray.empty=aD ((gu 10 s.data.toList).getD k []):=by
  rw [aMv,aMv,aMX,aMy ay];rfl
 rw [aR];by_cases hn:(gu 10 s.data.toList).getD k []= []
 ·rw [aMI (by rw [hn]),aMI hn,aQy]
 ·rw [aMA (λ e=>hn (Mj e)),aMA hn]
theorem agf (h:List UInt8) {t:List (List UInt8)} (aC:t≠ []):Ap (h::t)=h::Ap t:=by
 have ay:0<t.length:=aQV.2 aC;have e:((((h::t).length:Nat):Int) - 1).toNat=(((t.length:Int) - 1).toNat)+1:=by rw [aMw];omega
 unfold Ap;rw [e,List.getD_cons_succ,aPM];split<;>rfl
theorem Yw:∀ l:List UInt8,(gu 10 l=(Lib.cut l [10]).1::gu 10 (Lib.cut l [10]).2.1∧(Lib.cut l [10]).2.1.length<l.length∧(Lib.cut l [10]).1.length≤l.length)∨(gu 10 l= [l]∧Lib.cut l [10]=(l, [],false))
 | []=> .inr ⟨rfl,by unfold Lib.cut;rw [(wh 10 []).1 rfl];rfl⟩
 | x::l=>by
  by_cases hx:x=10
  ·subst hx;have e:Lib.cut (10::l) [10]=([],l,true):=by unfold Lib.cut;rw [(wh 10 l).2.2];rfl
   rw [e];exact .inl ⟨B4 10 l,by simp,by simp⟩
  ·rcases aOo (l.count 10) with aB | aB
   ·have ak:Lib.index (x::l) [10]= -1:=(wh 10 (x::l)).1 (by rw [aOu hx,aB]);have hs:gu 10 l= [l]:=by rw [← U3,aB];rfl
    exact .inr ⟨An hx hs,by unfold Lib.cut;rw [ak];rfl⟩
   ·obtain ⟨i,ak⟩:=ab3 aB;have κ:=(wh 10 l).2.1 x hx i ak;have aR:Lib.cut l [10]=(l.take i,l.drop (i+1),true):=by unfold Lib.cut;rw [ak,aMI (by omega)];simp
    have a6:Lib.cut (x::l) [10]=(x::l.take i,l.drop (i+1),true):=by unfold Lib.cut;rw [κ,aMI (by omega)];simp
    rcases Yw l with ⟨dt,ey,ju⟩ | ⟨_,k⟩
    ·rw [aR] at dt ey;rw [a6];exact .inl ⟨An hx dt,by simp only [aMw] at ey ⊢;omega,by simp only [aMw,aME];omega⟩
    ·rw [aR] at k;exact absurd (aON (λ q=>q.2.2) k) (by simp)
def se (s:ByteArray):ByteArray:=aD (Lib.cut s.data.toList [10]).1
def Fb (s:ByteArray):ByteArray:=aD (Lib.cut s.data.toList [10]).2.1
theorem adU:h_ (aD [])= []:=rfl
theorem auG {s:ByteArray} (h:¬ s=aD []):h_ s=se s::h_ (Fb s)∧(Fb s).size<s.size∧(se s).size≤s.size:=by
 have dD:¬ s.data.toList= []:=λ e=>h (by rw [← Ml s,e]);rw [JQ,JQ];unfold se Fb;rw [pV,pV,aNA s];show _∧_;have e0:(aD (Lib.cut s.data.toList [10]).2.1).data.toList=(Lib.cut s.data.toList [10]).2.1:=by unfold aD;simp
 rw [e0];rcases Yw s.data.toList with ⟨dt,ey,ju⟩ | ⟨dt,ey⟩
 ·obtain ⟨p,r,e⟩:=Am 10 (Lib.cut s.data.toList [10]).2.1;refine ⟨?_,ey,ju⟩;rw [dt,agf _ (by rw [e];exact aQe _ _)];rfl
 ·rw [dt,ey];refine ⟨?_,aQV.2 dD,aMO _⟩;have:Ap [s.data.toList]= [s.data.toList]:=aMA dD;rw [this];rfl
def A5 (l:List ByteArray):Nat:=(l.filter λ x=>jP (fJ x)).length
theorem akB (x:ByteArray) (l:List ByteArray):A5 (x::l)=(if jP (fJ x)=true then 1 else 0)+A5 l:=by
 unfold A5;by_cases h:jP (fJ x)=true
 ·rw [List.filter_cons_of_pos (p:=λ x=>jP (fJ x)) h,aMI h,aMw,aPn]
 ·rw [List.filter_cons_of_neg (p:=λ x=>jP (fJ x)) h,aMA h,aND]
theorem ayt (s:ByteArray) (w:World) (hs:s.size≤2000000) (av:lv w):
  Calls prog 16 #[.string s, .string (aD [10])] w λ e w'=>e= .returned (.tuple #[.string (se s), .string (Fb s), .bool (Lib.cut s.data.toList [10]).2.2])∧Ext w w':=by
 obtain ⟨m,hm⟩:=av.m;refine (strings_Cut s (aD [10]) m w (by omega) hm).mono ?_;rintro e w' ⟨rfl,n,rfl⟩;exact ⟨Z,below_drewN (aNb _ _) n⟩
theorem aAR (s:ByteArray) (w:World) (hs:s.size≤2000000):
  Calls prog 17 #[.string s] w (λ e w'=>∃ A c,e= .returned (.slice A (fJ s).length c)∧eU.aL 9 16 w' w.heap.size (Φ.ab A) A c (fJ s)∧Ext w w'):=by
 refine cx (n:=37) func17 Z Z Z ?_;refine aG<|aU Z<|aG<|aU Z<|aG<|aU Z<|aI<|aN Z<|aa (DG underlying9 Z (by omega))<|fi Z Z<|vm Z<|aJ<| ?_;refine bV<| ?_;refine gh (λ cL cw aV=>∃ i:Nat,∃ cur:List UInt8,∃ ct:Option Addr,∃ co:Nat,∃ o:List ByteArray,cw= [(0, .string s),(2, .slice none 0 0),(3, .slice ct o.length co),(4, .string (aD cur)),(8, .int .i64 ((((s).size:Int))+1)),(9, .int .i64 (i:Int))]∧cL=s.size+1 - i∧Ext w aV∧eU.aL 9 16 aV w.heap.size (Φ.ab ct) ct co (o)∧(i≤s.size+1)∧(fJ s=o++(wf cur ((s.data.toList++ [32]).drop i)).map aD)∧(cur.length≤i)∧(o.length≤i)) _ _ ⟨0, [],none,0, [],Z,Z,(Ext.bM w),(Φ.aL.nil _),by omega,by rw [aQr,aN4];exact aAM s,aMO _,aMO _⟩ (eV Z Z Z) ?_;rintro wA Ht dn ⟨i,cur,ct,co,o,rfl,rfl,dK,bU,ak,kR,yk,Gc⟩;refine aG<|fI Z Z<|aJ<|aI<| ?_;refine fM Z (λ oo=> ?_) (λ oo=> ?_)
 ·refine bF<|aI<|bV<|aN Z<|aU Z<|aI<|aN Z<|vm Z<|aa (DG underlying9 Z (by omega))<|fI Z Z<|vm Z<|gw Z Z<|gw Z Z<|cb Z (λ hc=>Kp underlying9 (gt hc Z) (gt hc Z) (by omega) (O3 (s:=s) (k:=i) (by (try simp only [cq] at hc);omega)))<|cb Z (λ hc=>bne (gt hc Z) Z)<|aa (fG Z Z Z Z)<|nl<| ?_;refine br<| ?_;refine c_ Z (λ Ja=> ?_) (λ Ja=> ?_)
  ·simp only [cq] at Ja;have Gk:¬ s.data.toList.getD i 0=32:=azH (n:=32) rfl Ja.2;refine aN Z<|vm Z<|vm Z<|vm Z<|fi Z Z<|aa (ays i (i+1) underlying9 Z Z Z Z (by omega) (by omega) (by omega))<|aa (v:= .string (aD (cur++ [s.data.toList.getD i 0]))) (ayS Z Z (by omega) (by omega))<|aU Z<|er<|ep<|eo<|eR Z Z Z<| ?_;exact fh ⟨i+1,(cur++ [s.data.toList.getD i 0]),ct,co,o,Z,Z,dK,bU,by omega,aAN (by omega) Gk kR,by rw [aMB];simp only [aMw,aMz];omega,by omega⟩
  ·simp only [cq] at Ja;have Gk:i<s.size→s.data.toList.getD i 0=32:=λ ak=>Ja.elim (λ h=>absurd ak (by omega)) (λ h=>azG (n:=32) rfl h);refine bF<|aI<|aN Z<|aa (Ie underlying9 Z Z)<|aJ<| ?_;refine c_ Z (λ oq=> ?_) (λ oq=> ?_)
   ·have S4:¬ cur= []:=λ e=>by subst e;exact avY oq
    refine rg<|vm Z<|vm Z<|b9 (e:= 9) (cs:= [.string (aD cur)]) Z (λ _=>by kernel_rfl) Z λ uo aDL xh aHr aip=> ?_;have je:=J dK xh;have bU:=bU.later xh;refine ap aiA px bU (aO.fu (R:=eU) (by_:=16) (q:=(aD cur)) aip ⟨Z,(by show (aD cur).size≤_;rw [pV];omega)⟩ (by decide)) Z Z (by simp only [aMw,aMz];omega) (by simp only [aMw,aMz];omega) je.size Z λ sM ahY alL aek HY aFp aIP=> ?_;have iR:=Ext.mod je aek (λ q I=>(bU.lt q I).1);refine aU Z<|rg<|va Z<|nl<|cm<|eR Z Z Z<| ?_;exact fh ⟨i+1, [],ahY,alL,o++ [(aD cur)],Z,Z,iR,HY,by omega,by have e:=ag8 (by omega) Gk kR;rw [aMA S4] at e;exact e,aNl _,by simp only [aMB,aMw,aMz];omega⟩
   ·have S4:cur= []:=Mj (aez oq);refine bF<|rg<|va Z<|nl<|cm<|eR Z Z Z<| ?_;exact fh ⟨i+1, [],ct,co,o,Z,Z,dK,bU,by omega,by have e:=ag8 (by omega) Gk kR;rw [aMI S4] at e;rw [aM4] at e;exact e,aNl _,by omega⟩
 ·refine er<|ep<|eY<|eo<|br<|aN Z<|bL Z<|c' Z Z<| ?_;have e:fJ s=o:=by rw [kR,aPp (by simp only [aMB,aMw,aMz];rw [← aNA];omega)];simp [wf]
  rw [e];exact ⟨_,_,Z,bU,dK⟩
theorem auJ (text:ByteArray) (w:World) (hE:text.size≤2000000) (zN:lv w):
  Calls prog 6 #[.string text] w (λ e w'=>∃ A c,e= .returned (.tuple #[.slice A (A5 (h_ text)) c,γ ((h_ text).length:Int)])∧Ext w w'):=by
 have av:=fL.of zN;refine cx (n:=39) func6 Z Z Z ?_;refine aG<|va Z<|aU Z<|aG<|aU Z<|aG<|aU Z<|aI<|bV<| ?_;refine gh (λ cL cw aV=>∃ t:ByteArray,∃ n:Nat,∃ ct:Option Addr,∃ co:Nat,∃ o:List H3,cw= [(0, .string t),(2, .slice none 0 0),(3,γ 0),(4, .slice ct o.length co),(5,γ (n:Int))]∧cL=t.size∧Ext w aV∧fL w.heap.size aV∧O5.aL 26 24 aV w.heap.size (Φ.ab ct) ct co (o)∧(t.size≤text.size)∧(n+(h_ t).length=(h_ text).length)∧(o.length+A5 (h_ t)=A5 (h_ text))∧(o.length≤n)) _ _ ⟨text,0,none,0, [],Z,Z,(Ext.bM w),av,(Φ.aL.nil _),by omega,by omega,by simp,by simp⟩ (eV Z Z Z) ?_;rintro wA Ht dn ⟨t,n,ct,co,o,rfl,rfl,dK,av,bU,aGK,hn,bl,aGu⟩;have aGc:=auH text;refine aI<|aN Z<|aa (Ie underlying9 Z Z)<|aJ<| ?_;refine c_ Z (λ oo=> ?_) (λ oo=> ?_)
 ·obtain ⟨aaG,aFB,aFC⟩:=auG (avZ oo);have aqe:=aON List.length aaG;rw [aMw] at aqe;have Sq:=aON A5 aaG;rw [akB] at Sq;refine bF<|bV<|aN Z<|de aow Z (ayt t _ (by omega) av.eb) λ G3 oX=> ?_;have pK:=J dK oX;refine vm Z<|b2 Z Z<|b2 Z Z<|b2 Z Z<|va Z<|va Z<|aU Z<|aN Z<|aU Z<|aN Z<|fi Z Z<|aU Z<|aG<| ?_;refine vm Z<|ca aox Z Z ((aAR (se t) _ (by omega)).mono ?_);rintro e xa ⟨EL,Fc,rfl,Xx,eA⟩;refine cK ?_;have iQ:=J pK eA;refine aU Z<|aN Z<|aa (dC underlying26 Z)<|aa (iv Z Z)<|vm Z<|gw Z Z<|cb Z (λ hc=>bX 0 underlying26 Bg (gt hc Z) Z (Xx.has.bx (a1 0 (by (try simp only [cq] at hc);omega))) Z (by (try simp only [cq] at hc);omega))<|cb Z (λ hc=>aA (gt hc Z) (Φ.aQ.dm F3 (Xx.has.ck (a1 0 (by (try simp only [cq] at hc);omega))) (cl (l:=fJ (se t)) (u:=ByteArray.empty) (j:=0) (by (try simp only [cq] at hc);omega)) Z Ft))<|cb Z (λ hc=>Kp underlying9 (gt hc Z) Z (by omega) (O3 (s:=(fJ (se t)).getD 0 ByteArray.empty) (k:=0) (ag5 (l:=se t) (mU (by (try simp only [cq] at hc);omega)))))<|cb Z (λ hc=>bne (gt hc Z) Z)<|aa (fG Z Z Z Z)<|aJ<| ?_;refine c_ Z (λ j3=> ?_) (λ j3=> ?_)
  ·simp only [cq] at j3;have dk:jP (fJ (se t))=true:=aeP (by omega) (λ e=>j3.2 (by rw [e];rfl));rw [aMI dk] at Sq;refine rg<|vm Z<|vm Z<|b9 (e:= 26) (cs:= [.slice EL ((fJ (se t)).length) Fc]) Z (λ _=>by kernel_rfl) Z λ sM s_ gi adz aiv=> ?_;have iR:=J iQ gi;have bU:=bU.later (J oX (J eA gi));refine ap aiz Φ.cZ bU (aO.fu (R:=O5) (by_:=24) (q:=(⟨EL,(fJ (se t)).length,Fc⟩:H3)) aiv ⟨Z,trivial⟩ (by decide)) Z Z (by simp only [aMw,aMz];omega) (by simp only [aMw,aMz];omega) iR.size Z λ KL ah4 alR BN ajT aFr aIS=> ?_;have pI:=Ext.mod iR BN (λ q I=>(bU.lt q I).1);refine va Z<|nl<|cm<| ?_;have av:=(av.later (J oX (J eA gi))).mod BN (λ q I=>by have:=(λ q I=>(bU.lt q I).1) q I;omega);exact fh ⟨(Fb t),n+1,ah4,alR,o++ [(⟨EL,(fJ (se t)).length,Fc⟩:H3)],Z,Z,pI,av,ajT,by omega,by omega,by rw [aMB];simp only [aMw,aMz];omega,by rw [aMB];simp only [aMw,aMz];omega⟩
  ·simp only [cq] at j3;have dk:jP (fJ (se t))=false:=j3.elim (λ h=>aeN (by omega)) (λ h=>aeO (agp h));rw [aMA (by rw [dk];decide)] at Sq;refine gb<|cm<| ?_;have ee:=(J oX eA);have av:=av.later ee;have bU:=bU.later ee;exact fh ⟨(Fb t),n+1,ct,co,o,Z,Z,iQ,av,bU,by omega,by omega,by omega,by omega⟩
 ·have aC:=aez oo;refine er<|ep<|eY<|eo<|br<|aN Z<|vm Z<|va Z<|bL Z<|hl Z Z Z<| ?_;have aC:t=aD []:=aC;rw [aC,adU] at hn bl;have hn:n=(h_ text).length:=hn;have bl:o.length=A5 (h_ text):=bl;rw [← hn,← bl];exact ⟨_,_,Z,dK⟩
end
section
variable {a:ByteArray}
open Go.RowKit Go.Proofs.YthlpmldmhakhaaaGreatDoor.qM
def aju (s:ByteArray):Prop:=(10:UInt8)∉s.data.toList
theorem Mk (l:List UInt8):(aD l).data.toList=l:=by unfold aD;simp
def aDr (l:List ByteArray):Prop:=∀ x∈l,aju x
def aFt (a:ByteArray):Prop:=a=aD [111,107]∨Lib.hasPrefix a.data.toList [111,107,32]=true∨Lib.hasPrefix a.data.toList [101,114,114,111,114,32]=true
theorem axc (p l:List UInt8):Lib.hasPrefix (p++l) p=true:=by
 unfold Lib.hasPrefix;rw [List.isPrefixOf_iff_prefix];exact List.prefix_append p l
noncomputable def XF:List ByteArray→b5→List (List UInt8)
 | [],_=> []
 | l::r,T=>if jP (fJ l)=true then (T.line (fJ l)).1.data.toList::XF r (T.line (fJ l)).2 else XF r T
def aE6 (l:List (List UInt8)):List UInt8:=(l.map λ a=>a++ [10]).flatten
theorem azi (m:List UInt8):Lib.hasSuffix (m++ [10]) [10]=true:=by
 unfold Lib.hasSuffix;rw [aQq];exact List.suffix_append m [10]
def aKT (s:ByteArray):ByteArray:=aD (Lib.trimSuffix s.data.toList [10])
theorem U8 {t:List (List UInt8)} (aC:t≠ []):∀ p:List (List UInt8),Ap (p++t)=p++Ap t
 | []=>rfl
 | h::p=>by rw [aOU,agf h (by intro e;exact aC (List.append_eq_nil_iff.1 e).2),U8 aC p];rfl
theorem OY (b:UInt8):∀ x y:List UInt8,gu b (x++b::y)=gu b x++gu b y
 | [],y=>B4 b y
 | c::x,y=>by
  by_cases hc:c=b
  ·subst hc;rw [aOU,B4,B4,OY c x y];rfl
  ·obtain ⟨p,t,e⟩:=Am b x;rw [aOU,An hc (h:=p) (t:=t++gu b y) (by rw [OY b x y,e];rfl),An hc e];rfl
def IE (a:ByteArray):Prop:=a=aD []∨Lib.hasSuffix a.data.toList [10]=true
theorem XL (a b:ByteArray):(a++b).data.toList=a.data.toList++b.data.toList:=by simp
theorem auF (h:IE a) (b:ByteArray):h_ (a++b)=h_ a++h_ b:=by
 rcases h with rfl | h
 ·rw [adU,aN4];congr 1
 ·unfold Lib.hasSuffix at h;rw [aQq] at h;obtain ⟨m,hm⟩:=h;rw [JQ,JQ,JQ,XL,← hm,aM6];have aR:gu 10 (m++([10]++b.data.toList))=gu 10 m++gu 10 b.data.toList:=OY 10 m _;have a6:gu 10 (m++ [10])=gu 10 m++ [[]]:=OY 10 m [];obtain ⟨p,t,e⟩:=Am 10 b.data.toList;rw [aR,a6,U8 (by rw [e];exact aQe _ _),U8 (aQe _ _)];have cM:Ap [[]]= []:=rfl;rw [cM,aM4,aM0]
theorem Up:∀ (l m:List ByteArray) (T:b5),∃ r,lN (l++m) T=lN l T++r
 | [],m,T=>⟨lN m T,rfl⟩
 | x::l,m,T=>by
  by_cases h:jP (fJ x)=true
  ·obtain ⟨r,hr⟩:=Up l m (T.line (fJ x)).2;refine ⟨r, ?_⟩;show (if jP (fJ x)=true then _++10::lN (l++m) _ else _)=(if jP (fJ x)=true then _ else _)++r;rw [aMI h,aMI h,hr];simp
  ·obtain ⟨r,hr⟩:=Up l m T;refine ⟨r, ?_⟩;show (if jP (fJ x)=true then _ else lN (l++m) T)=(if jP (fJ x)=true then _ else _)++r;rw [aMA h,aMA h,hr]
theorem apG {b:ByteArray} (he:IE a) (h:¬ (65536<a.size+b.size∨300<(h_ (a++b)).length)):Lib.hasPrefix (qz (a++b)).data.toList (qz a).data.toList=true:=by
 have ay:=auF he b;have aR:qz (a++b)=aD (lN (h_ (a++b)) B7):=aMA (by rw [aOa];exact h);have a6:qz a=aD (lN (h_ a) B7):=aMA (by
  rintro (k | k)
  ·exact h (.inl (by omega))
  ·exact h (.inr (by rw [ay,aMB];omega)))
 obtain ⟨r,hr⟩:=Up (h_ a) (h_ b) B7;rw [aR,a6,Mk,Mk,ay,hr];exact axc _ _
end
theorem aqG (s p:ByteArray) (w:World):Calls prog 14 #[.string s, .string p] w λ e w'=>e= .returned (.bool (Lib.hasPrefix s.data.toList p.data.toList))∧Ext w w' :=
 (strings_HasPrefix s p w).mono λ e w' k=>⟨k.1,by rw [k.2];exact Ext.bM w⟩
theorem aqH (s p:ByteArray) (w:World) (hs:s.size≤4000000000):Calls prog 13 #[.string s, .string p] w λ e w'=>e= .returned (.bool (Lib.hasSuffix s.data.toList p.data.toList))∧Ext w w' :=
 (strings_HasSuffix s p w (by omega)).mono λ e w' k=>⟨k.1,by rw [k.2];exact Ext.bM w⟩
theorem awv {p q:Prop} [Decidable p] [Decidable q] (h:(decide p || decide q)=false):¬ (p∨q):=by simpa using h
theorem Y4  (w:World) (zN:lv w):
  Calls prog 7 #[] w (λ e w'=>e= .returned (.bool true)∧Ext w w'):=by
 have av:=fL.of zN;refine cx (n:=3) func7 Z Z Z ?_;refine aG<|aU Z<|aG<|ca Rz Z Z ((UJ Oa _ (by decide) av.eb).mono ?_);rintro e dn ⟨rfl,aGB,gV⟩;refine cK ?_;refine aa (kP underlying9 Z Z)<|bL Z<|c' Z Z<| ?_;exact ⟨aON (λ b=>Ending.returned (Value.bool b)) (aMV (p:=qz Oa=adQ) aut),gV⟩
theorem ao0 (a:ByteArray):IE (a++aD [10]):= .inr (by rw [XL,Mk];exact azi _)
theorem ao1 {a:ByteArray} (h:(!decide (a=aD []) && !Lib.hasSuffix a.data.toList (aD [10]).data.toList)=false):IE a:=by
 rw [Mk] at h;by_cases κ:a=aD []
 ·exact .inl κ
 ·right;cases τ:Lib.hasSuffix a.data.toList [10] with
  | true=>rfl
  | false=>rw [aMY κ,τ] at h;cases h
theorem am1 (a0 b:ByteArray) (w:World) (hE:a0.size+b.size≤1048576) (zN:lv w):
  Calls prog 4 #[.string a0, .string b] w (λ e w'=>e= .returned (.bool true)∧Ext w w'):=by
 have av:=fL.of zN;refine cx (n:=49) func4 Z Z Z ?_;refine aG<|aU Z<| ?_;refine Kr (λ cw aV=>∃ a:ByteArray,cw= [(0, .string a),(1, .string b),(4, .bool false)]∧Ext w aV∧fL w.heap.size aV∧(a.size≤a0.size+1)∧(IE a)) ?_ ?_
 ·refine aN Z<|aa (Ie underlying9 Z Z)<|vm Z<|gw Z Z<|yN Z aoy (λ hc=>gG (gt hc Z) (gG Z Z)) (λ hc=>aqH a0 (aD [10]) _ (by omega)) λ dn gV=> ?_;refine cb Z (λ hc=>dH (gt hc Z))<|aa (fG Z Z Z Z)<|aJ<| ?_;refine c_ Z (λ aaQ=> ?_) (λ aaQ=> ?_)
  ·refine rg<|vm Z<|aa (v:= .string (a0++aD [10])) (Eb Z Z (by rw [pV];simp only [aMw,aMz];omega))<|va Z<|nl<| ?_;have av:=av.later gV;exact ml _ ⟨(a0++aD [10]),Z,gV,av,by rw [aOa];show a0.size+1≤_;omega,ao0 a0⟩ (ib Z)
  ·refine gb<| ?_;have av:=av.later gV;exact ml _ ⟨a0,Z,gV,av,by omega,ao1 aaQ⟩ (ib Z)
 rintro aDf Cd ⟨a,rfl,lr,av,ha,he⟩;have aaR:(a++b).size=a.size+b.size:=aOa;refine aN Z<|ca Rz Z Z ((UJ a _ (by omega) av.eb).mono ?_);rintro e fP ⟨rfl,aGA,d_⟩;refine cK ?_;have b7:=J lr d_;refine vm Z<|vm Z<|aa (v:= .string (a++b)) (Eb Z Z (by omega))<| ?_;have av:=av.later d_;refine ca Rz Z Z ((UJ (a++b) _ (by omega) av.eb).mono ?_);rintro e w_ ⟨rfl,abM,gK⟩;refine cK ?_;have ku:=J b7 gK;refine va Z<|aU Z<|aN Z<|vm Z<|aa (v:= .string (a++b)) (Eb Z Z (by omega))<| ?_;have av:=av.later gK;refine ca aoz Z Z ((auJ (a++b) _ (by omega) av.eb).mono ?_);rintro e yP ⟨rU,E8,rfl,ij⟩;refine cK ?_;have mC:=J ku ij;refine vm Z<|b2 Z Z<|b2 Z Z<|va Z<|aU Z<|aI<|aG<| ?_;have av:=av.later ij;refine de ZK Z (Y4 _ av.eb) λ yQ gi=> ?_;have iu:=J mC gi;refine aa (dH Z)<|vm Z<|jR Z Z Z<|vm Z<|jR Z Z Z<|aa (DG underlying9 Z (by omega))<|jR Z Z Z<|vm Z<|jR Z Z Z<|aa (DG underlying9 Z (by omega))<|jR Z Z Z<|fi Z Z<|jR Z Z Z<|aa (iv Z Z)<|aa (pn Z Z)<|vm Z<|gw Z Z<|cb Z (λ hc=>iv (gt hc Z) Z)<|aa (gq Z Z Z Z)<|aJ<| ?_;refine c_ Z (λ pc=> ?_) (λ pc=> ?_)
 ·refine aG<| ?_;have av:=av.later gi;refine de ZK Z (Y4 _ av.eb) λ rL jS=> ?_;have hU:=J iu jS;refine bL Z<|cW<|c' Z Z<| ?_;exact ⟨Z,hU⟩
 ·have F0:¬ (65536<a.size+b.size∨300<(h_ (a++b)).length):=λ k=>awv pc (k.imp (by omega) (by omega));refine bF<|aN Z<|vm Z<|de aoA Z (aqG ((qz (a++b))) (qz a) _) λ uk il=> ?_;have ka:=J iu il;refine bL Z<|c' Z Z<| ?_;exact ⟨aON (λ b=>Ending.returned (Value.bool b)) (apG he F0),ka⟩
end Go.Proofs.YthlpmldmhakhaaaGreatDoor
