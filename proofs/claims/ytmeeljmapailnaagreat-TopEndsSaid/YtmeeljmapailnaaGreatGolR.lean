import Derived.Test.YtmeeljmapailnaaGreatFcs
import Derived.RangeFuncNested
import Derived.OrdersIn
import Derived.LoopNIn
set_option linter.unusedVariables false
set_option linter.unusedSimpArgs false
set_option maxRecDepth 100000
set_option maxHeartbeats 4000000
open Go.RowKit
namespace Go.Proofs.YtmeeljmapailnaaGreat
open Tryz
abbrev aYH:=@List.take_succ_eq_append_getElem
abbrev aZl:=@Int.le_refl
abbrev aZA:=@List.not_mem_nil
abbrev aZF:=@Bool.and_false
abbrev aZ7:=@Bool.and_eq_false_iff
abbrev baq:=@or_false
abbrev baX:=@Int.mul_le_mul
abbrev bbg:=@List.all_eq_false
abbrev bbj:=@Bool.true_and
abbrev bbo:=@Go.Oper.semAt_eq
abbrev bbz:=@Go.IntKind.wrap_i64
abbrev bbH:=@Int.mul_nonneg
abbrev bbX:=@Nat.add_sub_cancel
abbrev bcz:=@List.perm_append_singleton
abbrev bcC:=@List.Perm.refl
abbrev bcF:=@Go.wpIn_region_lit
abbrev bc4:=@Array.mem_of_getElem?
abbrev bc9:=@Array.mem_toList_iff
abbrev bds:=@List.getElem?_set
section
namespace cv
section
variable {α:Type} [Inhabited α] {key:α→Int} {l:List α} {i j n k:Nat} {x:α}
def swp (l:List α) (i j:Nat):List α:=(l.set i (l.getD j default)).set j (l.getD i default)
theorem nQ:(swp l i j).length=l.length:=by unfold swp;rw [aYn,aYn]
theorem ai5 {i k:Nat} (hi:i<l.length):(l.set i x).getD k default=if k=i then x else l.getD k default:=by
 rw [aX7,aX7,bds];by_cases e:i=k
 ·subst e;rw [aYq rfl,aYq rfl];simp [hi]
 ·rw [aYi e,aYi (λ h=>e h.symm)]
theorem F' (hi:i<l.length) (ay:j<l.length):(swp l i j).getD k default=if k=j then l.getD i default else if k=i then l.getD j default else l.getD k default:=by
 unfold swp;rw [ai5 (by rw [aYn];exact ay),ai5 hi]
theorem Ga (hi:i<l.length) (ay:j<l.length):(swp l i j).Perm l:=by
 have h:=Array.swap_perm (xs:=l.toArray) (i:=i) (j:=j) (by simpa using hi) (by simpa using ay);have h:=h.toList;have e:(l.toArray.swap i j (by simpa using hi) (by simpa using ay)).toList=swp l i j:=by
  unfold swp;rw [aX7,aX7,aYb hi,aYb ay];simp [Array.swap]
 rw [e] at h;simpa using h
def rE (key:α→Int) (l:List α) (j:Nat):List α :=
 if 0<j∧key (l.getD j default)<key (l.getD ((j - 1) / 2) default) then rE key (swp l ((j - 1) / 2) j) ((j - 1) / 2) else l
termination_by j
decreasing_by omega
def pn (key:α→Int) (n:Nat) (l:List α) (i:Nat):Nat:=if 2 * i+2<n∧key (l.getD (2 * i+2) default)<key (l.getD (2 * i+1) default) then 2 * i+2 else 2 * i+1
theorem Pz:i<pn key n l i:=by unfold pn;split<;>omega
theorem ab2 (h:2 * i+1<n):pn key n l i<n:=by unfold pn;split<;>omega
theorem aFO:(pn key n l i - 1) / 2=i:=by unfold pn;split<;>omega
theorem am3 (ak:0<k) (hn:k<n) (hp:(k - 1) / 2=i):key (l.getD (pn key n l i) default)≤key (l.getD k default):=by
 have:k=2 * i+1∨k=2 * i+2:=by omega
 unfold pn;split
 ·rename_i h
  rcases this with rfl | rfl
  ·omega
  ·exact aZl _
 ·rename_i h
  rcases this with rfl | rfl
  ·exact aZl _
  ·have:¬ key (l.getD (2 * i+2) default)<key (l.getD (2 * i+1) default):=λ eI=>h ⟨hn,eI⟩;omega
def la (key:α→Int) (n:Nat) (l:List α) (i:Nat):List α :=
 if 2 * i+1<n∧key (l.getD (pn key n l i) default)<key (l.getD i default) then la key n (swp l i (pn key n l i)) (pn key n l i) else l
termination_by n - i
decreasing_by rename_i h;have:=Pz (key:=key) (n:=n) (l:=l) (i:=i);omega
theorem aKT:∀ (j:Nat) (l:List α),(rE key l j).length=l.length:=by
 intro j;induction j using Nat.strongRecOn with
 | ind j bL =>
  intro l;unfold rE;split
  ·rw [bL _ (by omega),nQ]
  ·rfl
theorem aKU:∀ (j:Nat) (l:List α),j<l.length→(rE key l j).Perm l:=by
 intro j;induction j using Nat.strongRecOn with
 | ind j bL =>
  intro l ah;unfold rE;split
  ·exact (bL _ (by omega) _ (by rw [nQ];omega)).trans (Ga (by omega) ah)
  ·exact bcC _
theorem ahP (n:Nat):∀ (m i:Nat) (l:List α),n - i≤m→(la key n l i).length=l.length:=by
 intro m;induction m with
 | zero=>intro i l h;unfold la;rw [aYi (by omega)]
 | succ m bL =>
  intro i l h;unfold la;split
  ·have:=Pz (key:=key) (n:=n) (l:=l) (i:=i);rw [bL _ _ (by omega),nQ]
  ·rfl
theorem ahQ (n:Nat):∀ (m i:Nat) (l:List α),n - i≤m→n≤l.length→i<l.length→(la key n l i).Perm l:=by
 intro m;induction m with
 | zero=>intro i l h _ _;unfold la;rw [aYi (by omega)]
 | succ m bL =>
  intro i l h hn hi;unfold la;split
  ·rename_i hc
   have:=Pz (key:=key) (n:=n) (l:=l) (i:=i);have:=ab2 (key:=key) (l:=l) hc.1;exact (bL _ _ (by omega) (by rw [nQ];exact hn) (by rw [nQ];omega)).trans (Ga hi (by omega))
  ·exact bcC _
theorem axo (n:Nat):∀ (m i:Nat) (l:List α),n - i≤m→n≤l.length→i<l.length→∀ k,n≤k→i<n→(la key n l i).getD k default=l.getD k default:=by
 intro m;induction m with
 | zero=>intro i l h _ _ k _ _;unfold la;rw [aYi (by omega)]
 | succ m bL =>
  intro i l h hn hi k ak e_;unfold la;split
  ·rename_i hc
   have κ:=Pz (key:=key) (n:=n) (l:=l) (i:=i);have τ:=ab2 (key:=key) (l:=l) hc.1;rw [bL _ _ (by omega) (by rw [nQ];exact hn) (by rw [nQ];omega) k ak τ,F' hi (by omega),aYi (by omega),aYi (by omega)]
  ·rfl
def Heap (key:α→Int) (n:Nat) (l:List α):Prop:=∀ i,0<i→i<n→key (l.getD ((i - 1) / 2) default)≤key (l.getD i default)
theorem aKS (n:Nat):∀ (j:Nat) (l:List α),j<n→n≤l.length→(∀ i,0<i→i<n→i≠j→key (l.getD ((i - 1) / 2) default)≤key (l.getD i default))→
  (∀ i,0<i→i<n→(i - 1) / 2=j→0<j→key (l.getD ((j - 1) / 2) default)≤key (l.getD i default))→Heap key n (rE key l j):=by
 intro j;induction j using Nat.strongRecOn with
 | ind j bL =>
  intro l ay hn κ τ;unfold rE;split
  ·rename_i hc
   obtain ⟨aG,bF⟩:=hc;have aN:∀ k,(swp l ((j - 1) / 2) j).getD k default=if k=j then l.getD ((j - 1) / 2) default else if k=(j - 1) / 2 then l.getD j default else l.getD k default:=λ k=>F' (by omega) (by omega)
   refine bL _ (by omega) _ (by omega) (by rw [nQ];exact hn) (λ i lK e_ fZ=> ?_) (λ i lK e_ hp AZ=> ?_)
   ·rw [aN,aN];by_cases e:i=j
    ·subst e;rw [aYq rfl,aYi (by omega),aYq rfl];omega
    ·rw [aYi e,aYi fZ];by_cases bb:(i - 1) / 2=j
     ·rw [aYq bb];exact τ i lK e_ bb aG
     ·rw [aYi bb];by_cases df:(i - 1) / 2=(j - 1) / 2
      ·rw [aYq df];have:=κ i lK e_ e;rw [df] at this;omega
      ·rw [aYi df];exact κ i lK e_ e
   ·rw [aN,aN];rw [aYi (by omega),aYi (by omega)];have T2:=κ ((j - 1) / 2) AZ (by omega) (by omega);by_cases e:i=j
    ·rw [aYq e];exact T2
    ·rw [aYi e,aYi (by omega)];have:=κ i lK e_ e;rw [hp] at this;omega
  ·rename_i hc
   intro i lK e_;by_cases e:i=j
   ·subst e;have:¬ key (l.getD i default)<key (l.getD ((i - 1) / 2) default):=λ h=>hc ⟨lK,h⟩;omega
   ·exact κ i lK e_ e
theorem axn (n:Nat):∀ (m i0:Nat) (l:List α),n - i0≤m→i0<l.length→n≤l.length→(∀ i,0<i→i<n→(i - 1) / 2≠i0→key (l.getD ((i - 1) / 2) default)≤key (l.getD i default))→
  (∀ i,0<i→i<n→(i - 1) / 2=i0→0<i0→key (l.getD ((i0 - 1) / 2) default)≤key (l.getD i default))→Heap key n (la key n l i0):=by
 intro m;induction m with
 | zero =>
  intro i0 l h _ _ κ _;unfold la;rw [aYi (by omega)];intro i lK e_;exact κ i lK e_ (by omega)
 | succ m bL =>
  intro i0 l h A' hn κ τ;unfold la;split
  ·rename_i hc
   obtain ⟨aaD,bF⟩:=hc;have g1:=Pz (key:=key) (n:=n) (l:=l) (i:=i0);have g2:=ab2 (key:=key) (l:=l) aaD;have g3:=aFO (key:=key) (n:=n) (l:=l) (i:=i0);have g4:=λ k ak hn hp=>am3 (key:=key) (n:=n) (l:=l) (i:=i0) (k:=k) ak hn hp;generalize ay:pn key n l i0=j at *
   have aN:∀ k,(swp l i0 j).getD k default=if k=j then l.getD i0 default else if k=i0 then l.getD j default else l.getD k default:=λ k=>F' A' (by omega)
   refine bL _ _ (by omega) (by rw [nQ];omega) (by rw [nQ];exact hn) (λ i lK e_ fZ=> ?_) (λ i lK e_ hp AZ=> ?_)
   ·rw [aN,aN];rw [aYi fZ];by_cases e:(i - 1) / 2=i0
    ·rw [aYq e];by_cases bb:i=j
     ·rw [aYq bb];omega
     ·rw [aYi bb,aYi (by omega)];exact g4 i lK e_ e
    ·rw [aYi e];by_cases bb:i=j
     ·omega
     ·rw [aYi bb];by_cases df:i=i0
      ·rw [aYq df];have:=τ j (by omega) g2 g3 (by omega);rw [df];exact this
      ·rw [aYi df];exact κ i lK e_ e
   ·rw [aN,aN,g3];rw [aYi (by omega),aYq rfl,aYi (by omega),aYi (by omega)];have:=κ i lK e_ (by omega);rw [hp] at this;exact this
  ·rename_i hc
   intro i lK e_;by_cases e:(i - 1) / 2=i0
   ·have aaD:2 * i0+1<n:=by omega
    have:¬ key (l.getD (pn key n l i0) default)<key (l.getD i0 default):=λ h=>hc ⟨aaD,h⟩;have:=am3 (key:=key) (n:=n) (l:=l) lK e_ e;rw [e];omega
   ·exact κ i lK e_ e
theorem Heap.min (h:Heap key n l):∀ i,i<n→key (l.getD 0 default)≤key (l.getD i default):=by
 intro i;induction i using Nat.strongRecOn with
 | ind i bL =>
  intro hi;by_cases aG:0<i
  ·exact Int.le_trans (bL ((i - 1) / 2) (by omega) (by omega)) (h i aG hi)
  ·have:i=0:=by omega
   subst this;exact aZl _
def push (key:α→Int) (l:List α) (x:α):List α:=rE key (l++ [x]) l.length
theorem PV:(push key l x).length=l.length+1:=by unfold push;rw [aKT,aX9];rfl
theorem aoc:(push key l x).Perm (x::l):=(aKU _ _ (by rw [aX9];simp)).trans (bcz x l)
theorem agb (h:k<l.length):(l++ [x]).getD k default=l.getD k default:=by
 rw [aX7,aX7,aYw h]
theorem aH7 (h:Heap key l.length l):Heap key (push key l x).length (push key l x):=by
 rw [PV];refine aKS _ _ _ (by omega) (by simp) (λ i lK e_ fZ=> ?_) (λ i lK e_ hp aG=>by omega);rw [agb (by omega),agb (by omega)];exact h i lK (by omega)
def zI (key:α→Int) (l:List α):List α:=la key (l.length - 1) (swp l 0 (l.length - 1)) 0
def pF (key:α→Int) (l:List α):List α:=(zI key l).take (l.length - 1)
theorem an5:(zI key l).length=l.length:=by unfold zI;rw [ahP _ _ _ _ (aYg _),nQ]
theorem LB:(pF key l).length=l.length - 1:=by unfold pF;rw [aYa,an5];omega
theorem an4 (aG:0<l.length):(zI key l).getD (l.length - 1) default=l.getD 0 default:=by
 unfold zI;by_cases κ:l.length - 1=0
 ·unfold la;rw [aYi (by omega),F' aG (by omega),aYq rfl]
 ·rw [axo _ _ _ _ (aYg _) (by rw [nQ];omega) (by rw [nQ];omega) _ (aYg _) (by omega),F' aG (by omega),aYq rfl]
theorem an7 (aG:0<l.length):(l.getD 0 default::pF key l).Perm l:=by
 have κ:(zI key l).Perm l:=by
  unfold zI;exact (ahQ _ _ _ _ (aYg _) (by rw [nQ];omega) (by rw [nQ];exact aG)).trans (Ga aG (by omega))
 have τ:pF key l++ [l.getD 0 default]=zI key l:=by
  have e:=an4 (key:=key) aG;have ah:=an5 (key:=key) (l:=l);unfold pF;rw [← e,aX7,aYb (by omega),aZm];rw [← aYH (by omega)];exact aYp (by omega)
 exact ((bcz _ _).symm.trans (by rw [τ])).trans κ
theorem an6 (h:Heap key l.length l) (aG:0<l.length):Heap key (pF key l).length (pF key l):=by
 rw [LB];have hd:Heap key (l.length - 1) (zI key l):=by
  unfold zI;refine axn _ _ _ _ (aYg _) (by rw [nQ];exact aG) (by rw [nQ];omega) (λ i lK e_ fZ=> ?_) (λ i _ _ _ aG=>absurd aG (by omega));rw [F' aG (by omega),F' aG (by omega),aYi (by omega),aYi fZ,aYi (by omega),aYi (by omega)];exact h i lK (by omega)
 intro i lK e_;have aH:∀ k,k<l.length - 1→(pF key l).getD k default=(zI key l).getD k default:=λ k ak=>by
  unfold pF;rw [aX7,aX7,aYO,aYq ak]
 rw [aH _ (by omega),aH _ e_];exact hd i lK e_
theorem Heap.least (h:Heap key l.length l):∀ y∈l,key (l.getD 0 default)≤key y:=by
 intro y aE;obtain ⟨i,hi,rfl⟩:=aY9.1 aE;have:=h.min i hi
 rwa [show l.getD i default=l[i] by rw [aX7,aYb hi];rfl] at this
end
end cv
end
section
namespace rW
section
variable {α:Type} {dr:α→List α} {k h:α→Int} {src:α→Prop} {x y s b:α} {d s0 D:Int} {aD CL:α→Int} {Q r0:List (α×Int)} {rest:List α} {e:α×Int}
inductive p2 (dr:α→List α) (k:α→Int) (src:α→Prop):α→Int→Prop
 | start {s:α} (hs:src s):p2 dr k src s 0
 | step {x y:α} {d:Int} (hx:p2 dr k src x d) (aE:y∈dr x):p2 dr k src y (d+k y)
def vF (dr:α→List α) (k:α→Int) (src:α→Prop) (x:α) (d:Int):Prop:=p2 dr k src x d∧∀ s0,p2 dr k src x s0→d≤s0
structure j_ (dr:α→List α) (k h:α→Int):Prop where
 xJ:∀ x,∀ y∈dr x,0<k y
 aG:∀ x,0≤h x
 ak:∀ x,∀ y∈dr x,h x≤k y+h y
theorem p2.tS (o:j_ dr k h) (r:p2 dr k src x d):0≤d:=by
 induction r with
 | start _=>exact aZl 0
 | step _ aE bL=>have:=o.xJ _ _ aE;omega
theorem vF.uniq (κ:vF dr k src x d) (τ:vF dr k src x s0):d=s0:=Int.le_antisymm (κ.2 _ τ.1) (τ.2 _ κ.1)
structure Inv (dr:α→List α) (k h:α→Int) (src:α→Prop) (aD:α→Int) (Q:List (α×Int)) (dO:α) (rest:List α):Prop where
 q:∀ e∈Q,(src e.1∧e.2=0)∨∃ p,0≤aD p∧e.1∈dr p∧e.2=aD p+k e.1
 neg:∀ x,aD x<0→aD x= -1
 p6:∀ x,0≤aD x→vF dr k src x (aD x)
 pred:∀ x,0≤aD x→(src x∧aD x=0)∨∃ p,0≤aD p∧x∈dr p∧aD x=aD p+k x
 PU:∀ x,0≤aD x→∀ y∈dr x,0≤aD y∨(y,aD x+k y)∈Q∨(x=dO∧y∈rest)
 Qc:∀ s,src s→0≤aD s∨(s,0)∈Q
 mono:∀ x,0≤aD x→∀ e∈Q,aD x+h x≤e.2+h e.1
 aqs:rest≠ []→0≤aD dO∧(∀ y∈rest,y∈dr dO)∧∀ z,0≤aD z→aD z+h z≤aD dO+h dO
theorem Inv.aos (i:Inv dr k h src aD Q x rest) (he:e∈Q):p2 dr k src e.1 e.2:=by
 rcases i.q e he with ⟨κ,τ⟩ | ⟨p,κ,τ,au⟩
 ·rw [τ];exact .start κ
 ·rw [au];exact .step (i.p6 p κ).1 τ
theorem Inv.front (o:j_ dr k h) (i:Inv dr k h src aD Q s []) (r:p2 dr k src x d):aD x<0→∃ e∈Q,e.2+h e.1≤d+h x:=by
 induction r with
 | start hs =>
  intro hx;rcases i.Qc _ hs with κ | κ
  ·omega
  ·exact ⟨_,κ,aZl _⟩
 | @step x y d r aE bL =>
  intro aST;by_cases hx:aD x<0
  ·obtain ⟨e,he,hle⟩:=bL hx;have:=o.ak x y aE;exact ⟨e,he,by omega⟩
  ·rcases i.PU x (by omega) y aE with κ | κ | ⟨_,κ⟩
   ·omega
   ·have:=(i.p6 x (by omega)).2 d r;exact ⟨_,κ,by dsimp only;omega⟩
   ·simp at κ
theorem Inv.aHR (i:Inv dr k h src aD Q x []) (hp:Q.Perm (e::r0)) (hd:0≤aD e.1):Inv dr k h src aD r0 x []:=by
 have hs:∀ z∈r0,z∈Q:=λ z bc=>hp.symm.subset (aYm _ bc);have I:∀ z∈Q,z=e∨z∈r0:=λ z bc=>aYk.1 (hp.subset bc);refine ⟨λ z bc=>i.q z (hs z bc),i.neg,i.p6,i.pred,λ a ha c hc=> ?_,λ s aDu=> ?_,λ a ha z bc=>i.mono a ha z (hs z bc),λ hn=>absurd Z hn⟩
 ·rcases i.PU a ha c hc with κ | κ | κ
  ·exact .inl κ
  ·rcases I _ κ with τ | τ
   ·left;rw [← τ] at hd;exact hd
   ·exact .inr (.inl τ)
  ·exact .inr (.inr κ)
 ·rcases i.Qc s aDu with κ | κ
  ·exact .inl κ
  ·rcases I _ κ with τ | τ
   ·left;rw [← τ] at hd;exact hd
   ·exact .inr τ
theorem Inv.aHQ (o:j_ dr k h) (i:Inv dr k h src aD Q s []) (hp:Q.Perm (e::r0)) (hd:aD e.1<0) (akB:∀ z∈Q,e.2+h e.1≤z.2+h z.1) (OE:CL e.1=e.2) (fZ:∀ z,z≠e.1→CL z=aD z):Inv dr k h src CL r0 e.1 (dr e.1)∧0≤e.2:=by
 have hs:∀ z∈r0,z∈Q:=λ z bc=>hp.symm.subset (aYm _ bc);have I:∀ z∈Q,z=e∨z∈r0:=λ z bc=>aYk.1 (hp.subset bc);have KS:e∈Q:=hp.symm.subset aYE;have alc:=i.aos KS;have lL:=alc.tS o;have od:∀ z,0≤aD z→CL z=aD z:=λ z bc=>fZ z (λ aW=>by rw [aW] at bc;omega);have xw:vF dr k src e.1 e.2:=⟨alc,λ s0 r=>by
  obtain ⟨z,bc,hle⟩:=i.front o r hd;have:=akB z bc
  omega⟩
 have akn:∀ a,0≤CL a→CL a+h a≤e.2+h e.1:=λ a ha=>by
  by_cases aW:a=e.1
  ·subst aW;omega
  ·rw [fZ a aW] at ha ⊢;exact i.mono a ha e KS
 refine ⟨⟨λ z bc=> ?_,λ a ha=> ?_,λ a ha=> ?_,λ a ha=> ?_,λ a ha c hc=> ?_,λ a ha=> ?_,λ a ha z bc=> ?_,λ _=>⟨by omega,λ y aE=>aE,λ a ha=>by rw [OE];exact akn a ha⟩⟩,lL⟩
 ·rcases i.q z (hs z bc) with κ | ⟨p,κ,τ,au⟩
  ·exact .inl κ
  ·exact .inr ⟨p,by rw [od p κ];exact κ,τ,by rw [od p κ];exact au⟩
 ·by_cases aW:a=e.1
  ·subst aW;omega
  ·rw [fZ a aW] at ha ⊢;exact i.neg a ha
 ·by_cases aW:a=e.1
  ·rw [aW,OE];exact xw
  ·rw [fZ a aW] at ha ⊢;exact i.p6 a ha
 ·by_cases aW:a=e.1
  ·rw [aW,OE];rcases i.q e KS with κ | ⟨p,κ,τ,au⟩
   ·exact .inl κ
   ·exact .inr ⟨p,by rw [od p κ];exact κ,τ,by rw [od p κ];exact au⟩
  ·rw [fZ a aW] at ha ⊢;rcases i.pred a ha with κ | ⟨p,κ,τ,au⟩
   ·exact .inl κ
   ·exact .inr ⟨p,by rw [od p κ];exact κ,τ,by rw [od p κ];exact au⟩
 ·by_cases aW:a=e.1
  ·exact .inr (.inr ⟨aW,by rw [← aW];exact hc⟩)
  ·rw [fZ a aW] at ha ⊢;rcases i.PU a ha c hc with κ | κ | ⟨_,κ⟩
   ·left;rw [od c κ];exact κ
   ·rcases I _ κ with τ | τ
    ·left;have:c=e.1:=by rw [← τ]
     rw [this,OE];exact lL
    ·exact .inr (.inl τ)
   ·simp at κ
 ·rcases i.Qc a ha with κ | κ
  ·left;rw [od a κ];exact κ
  ·rcases I _ κ with τ | τ
   ·left;have:a=e.1:=by rw [← τ]
    rw [this,OE];exact lL
   ·exact .inr τ
 ·have:=akn a ha;have:=akB z (hs z bc);omega
theorem Inv.push (o:j_ dr k h) (i:Inv dr k h src aD Q x (y::rest)) (hp:r0.Perm ((y,aD x+k y)::Q)):Inv dr k h src aD r0 x rest:=by
 have hs:∀ z∈Q,z∈r0:=λ z bc=>hp.symm.subset (aYm _ bc);have hn:(y,aD x+k y)∈r0:=hp.symm.subset aYE;have I:∀ z∈r0,z=(y,aD x+k y)∨z∈Q:=λ z bc=>aYk.1 (hp.subset bc);obtain ⟨eX,fA,i_⟩:=i.aqs (by simp);have alo:=fA y aYE;refine ⟨λ z bc=> ?_,i.neg,i.p6,i.pred,λ a ha c hc=> ?_,λ a ha=>(i.Qc a ha).imp id (hs _),λ a ha z bc=> ?_,λ _=>⟨eX,λ c hc=>fA c (aYm _ hc),i_⟩⟩
 ·rcases I z bc with rfl | κ
  ·exact .inr ⟨x,eX,alo,Z⟩
  ·exact i.q z κ
 ·rcases i.PU a ha c hc with κ | κ | ⟨κ,τ⟩
  ·exact .inl κ
  ·exact .inr (.inl (hs _ κ))
  ·rcases aYk.1 τ with au | au
   ·subst κ;subst au;exact .inr (.inl hn)
   ·exact .inr (.inr ⟨κ,au⟩)
 ·rcases I z bc with rfl | κ
  ·have:=i_ a ha;have:=o.ak x y alo;dsimp only;omega
  ·exact i.mono a ha z κ
theorem Inv.skip (i:Inv dr k h src aD Q x (y::rest)) (aE:0≤aD y):Inv dr k h src aD Q x rest:=by
 obtain ⟨eX,fA,i_⟩:=i.aqs (by simp);refine ⟨i.q,i.neg,i.p6,i.pred,λ a ha c hc=> ?_,i.Qc,i.mono,λ _=>⟨eX,λ c hc=>fA c (aYm _ hc),i_⟩⟩;rcases i.PU a ha c hc with κ | κ | ⟨κ,τ⟩
 ·exact .inl κ
 ·exact .inr (.inl κ)
 ·rcases aYk.1 τ with au | au
  ·subst au;exact .inl aE
  ·exact .inr (.inr ⟨κ,au⟩)
theorem Inv.start (hn:∀ x,aD x= -1) (I:∀ e∈Q,src e.1∧e.2=0) (hs:∀ s,src s→(s,0)∈Q):Inv dr k h src aD Q x [] :=
 ⟨λ e he=> .inl (I e he),λ a _=>hn a,λ a ha=>by rw [hn a] at ha;omega,λ a ha=>by rw [hn a] at ha;omega,λ a ha=>by rw [hn a] at ha;omega,λ s κ=> .inr (hs s κ),λ a ha=>by rw [hn a] at ha;omega,λ κ=>absurd rfl κ⟩
theorem Inv.all (o:j_ dr k h) (i:Inv dr k h src aD [] s []) (r:p2 dr k src x d):0≤aD x:=by
 by_cases hx:aD x<0
 ·obtain ⟨e,he,_⟩:=i.front o r hx;simp at he
 ·omega
structure Spec (dr:α→List α) (k h:α→Int) (src:α→Prop) (b:α) (aD:α→Int):Prop where
 neg:∀ x,aD x<0→aD x= -1
 p6:∀ x,0≤aD x→vF dr k src x (aD x)∧∀ D,vF dr k src b D→aD x+h x≤D
 known:∀ x d,vF dr k src x d→(∀ D,vF dr k src b D→d+h x≤D)→aD x=d
 pred:∀ x,0≤aD x→(src x∧aD x=0)∨∃ p,0≤aD p∧x∈dr p∧aD x=aD p+k x
theorem Spec.uniq (s1:Spec dr k h src b aD) (s2:Spec dr k h src b CL) (x:α):aD x=CL x:=by
 by_cases κ:0≤aD x
 ·exact (s2.known x _ (s1.p6 x κ).1 (s1.p6 x κ).2).symm
 ·by_cases τ:0≤CL x
  ·exact s1.known x _ (s2.p6 x τ).1 (s2.p6 x τ).2
  ·rw [s1.neg x (by omega),s2.neg x (by omega)]
theorem Inv.ends (o:j_ dr k h) (i:Inv dr k h src aD Q s []) (ag:h b=0) (hm:0≤aD b→∀ x,0≤aD x→aD x+h x≤aD b) (he:(0≤aD b∧∀ e∈Q,aD b<e.2+h e.1)∨Q= []):Spec dr k h src b aD:=by
 refine ⟨i.neg,λ x hx=>⟨i.p6 x hx,λ D xw=> ?_⟩,λ x d hd hle=> ?_,i.pred⟩
 ·by_cases κ:0≤aD b
  ·have:=hm κ x hx;rw [xw.uniq (i.p6 b κ)];exact this
  ·rcases he with he | he
   ·omega
   ·subst he;exact absurd (i.all o xw.1) κ
 ·by_cases κ:aD x<0
  ·obtain ⟨e,KS,ak⟩:=i.front o hd.1 κ;rcases he with ⟨τ,au⟩ | τ
   ·have:=hle _ (i.p6 b τ);have:=au e KS;omega
   ·subst τ;simp at KS
  ·exact (i.p6 x (by omega)).uniq hd
theorem Spec.end_ (s:Spec dr k h src b aD) (ag:h b=0) (hd:vF dr k src b D):aD b=D:=s.known b D hd λ aNG κ=>by rw [ag,hd.uniq κ];omega
theorem p2.alx (o:j_ dr k h) (r:p2 dr k src x d):∃ d,vF dr k src x d:=by
 have:∀ n:Nat,∀ d,p2 dr k src x d→d.toNat=n→∃ d,vF dr k src x d:=by
  intro n;induction n using Nat.strongRecOn with
  | ind n bL =>
   intro d r hn;by_cases hex:∃ s0,p2 dr k src x s0∧s0<d
   ·obtain ⟨s0,r',bF⟩:=hex;have:=r'.tS o;exact bL s0.toNat (by omega) s0 r' Z
   ·exact ⟨d,r,λ s0 r'=>by
     by_cases bF:s0<d
     ·exact absurd ⟨s0,r',bF⟩ hex
     ·omega⟩
 exact this _ d r Z
end
end rW
end
open Tryz

structure az where
 x:Int
 y:Int
 deriving DecidableEq,Inhabited
namespace az
def cells (a:az):List Value:= [.int .i64 (a.x), .int .i64 (a.y)]
def ok (a:az):Prop:=(Lit.int .i64 a.x).wf=true∧(Lit.int .i64 a.y).wf=true
def raw (j:Nat) (u:Value):Prop:=match j with
 | 0 | 1=>∃ n:Int,u= .int .i64 n
 | _=>True
theorem qQ (a:az):∀ (j:Nat) u,a.cells[j]? =some u→raw j u:=by
 intro j u hu
 match j,hu with
 | 0,hu | 1,hu=>exact ⟨_,(aYd hu).symm⟩
 | j+2,hu=>exact trivial
theorem qP (a:az):∀ u∈a.cells,u.oneCell'=true:=by
 intro u hu;unfold cells at hu;simp only [aYk,aZA,baq] at hu;rcases hu with rfl | rfl<;>rfl
def rep:J az:=J.flat 2 cells ok raw (λ _=>rfl) qP qQ
theorem plain:rep.Plain:=J.qa
def zero:Value:= .agg #[.int .i64 0, .int .i64 0]
theorem j8:∀ (j:Nat) u,zero.cells[j]? =some u→rep.raw j u:=by
 intro j u hu;have hu:(#[(.int .i64 0:Value),(.int .i64 0:Value)]:Array Value)[j]? =some u:=hu
 match j,hu with
 | 0,hu | 1,hu=>exact ⟨_,(aYd hu).symm⟩
 | j+2,hu=>cases hu
theorem info:(prog.info? 55).map (λ i=>(i.zero,i.size,i.bytes))=some (some zero,2,16):=by kernel_rfl
theorem at_ {by_:Nat} {w:World} {A:Option Addr} {c:Nat} {l:List az} (h:rep.aK by_ w A c l) (aG:0<l.length):
  ∃ b o,A=some ⟨b,o,none⟩∧∀ (i:Nat) (a:az),l[i]? =some a→w.cell? ⟨b,o+i * 2,none⟩=some (.int .i64 (a.x))∧w.cell? ⟨b,o+i * 2+1,none⟩=some (.int .i64 (a.y)):=by
 obtain ⟨b,o,e,hc⟩:=h.at_ aG;refine ⟨b,o,e,λ i a ha=> ?_⟩;obtain ⟨es,⟨rfl,_⟩,ay⟩:=hc i a ha;exact ⟨ay 0 _ Z,ay 1 _ Z⟩
theorem oD {by_:Nat} {w:World} {A:Option Addr} {c:Nat} {l:List az} (h:rep.aK by_ w A c l):∀ a∈l,a.ok:=J.aK.AB (R:=rep) (Q:=ok) (fun {w cs a} (h:rep.has w cs a)=>(show cs=a.cells∧a.ok from h).2) h
theorem fI {w:World} {g:Nat} {t:TypeId} {aD:Nat×Nat} {a:az} (h:aM w g a.cells t aD):w.cell? ⟨g,0,none⟩=some (.int .i64 (a.x))∧w.cell? ⟨g,1,none⟩=some (.int .i64 (a.y)):=
 ⟨h.cell 0,h.cell 1⟩
def sh:hl:=(.cons (.int .i64) (.cons (.int .i64) .nil))
theorem opens (w:World) (cs:List Value) (h:sh.j_ w cs):∃ a,rep.has w cs a:=by
 obtain ⟨_,_,rfl,_,_,⟨dO,rfl,xJ⟩,⟨_,_,rfl,_,_,⟨eX,rfl,dw⟩,rfl⟩⟩:=h;exact ⟨⟨dO,eX⟩,Z,xJ,dw⟩
end az
theorem y9 {w:World} {cs:List Value} {a:az} (h:az.rep.has w cs a):cs=a.cells:=bas (show cs=a.cells∧a.ok from h)
open Tryz

structure bj where
 id:Int
 owner:Int
 kind:Int
 spot:az
 dW:Int
 load:Int
 deriving DecidableEq,Inhabited
namespace bj
def cells (a:bj):List Value:= [.int .i64 (a.id), .int .i64 (a.owner), .int .i64 (a.kind), .int .i64 (a.spot.x), .int .i64 (a.spot.y), .int .i64 (a.dW), .int .i64 (a.load)]
def ok (a:bj):Prop:=(Lit.int .i64 a.id).wf=true∧(Lit.int .i64 a.owner).wf=true∧(Lit.int .i64 a.kind).wf=true∧(Lit.int .i64 a.spot.x).wf=true∧(Lit.int .i64 a.spot.y).wf=true∧(Lit.int .i64 a.dW).wf=true∧(Lit.int .i64 a.load).wf=true
def raw (j:Nat) (u:Value):Prop:=match j with
 | 0 | 1 | 2 | 3 | 4 | 5 | 6=>∃ n:Int,u= .int .i64 n
 | _=>True
theorem qQ (a:bj):∀ (j:Nat) u,a.cells[j]? =some u→raw j u:=by
 intro j u hu
 match j,hu with
 | 0,hu | 1,hu | 2,hu | 3,hu | 4,hu | 5,hu | 6,hu=>exact ⟨_,(aYd hu).symm⟩
 | j+7,hu=>exact trivial
theorem qP (a:bj):∀ u∈a.cells,u.oneCell'=true:=by
 intro u hu;unfold cells at hu;simp only [aYk,aZA,baq] at hu;rcases hu with rfl | rfl | rfl | rfl | rfl | rfl | rfl<;>rfl
def rep:J bj:=J.flat 7 cells ok raw (λ _=>rfl) qP qQ
theorem plain:rep.Plain:=J.qa
def zero:Value:= .agg #[.int .i64 0, .int .i64 0, .int .i64 0, .int .i64 0, .int .i64 0, .int .i64 0, .int .i64 0]
theorem j8:∀ (j:Nat) u,zero.cells[j]? =some u→rep.raw j u:=by
 intro j u hu;have hu:(#[(.int .i64 0:Value),(.int .i64 0:Value),(.int .i64 0:Value),(.int .i64 0:Value),(.int .i64 0:Value),(.int .i64 0:Value),(.int .i64 0:Value)]:Array Value)[j]? =some u:=hu
 match j,hu with
 | 0,hu | 1,hu | 2,hu | 3,hu | 4,hu | 5,hu | 6,hu=>exact ⟨_,(aYd hu).symm⟩
 | j+7,hu=>cases hu
theorem info:(prog.info? 57).map (λ i=>(i.zero,i.size,i.bytes))=some (some zero,7,56):=by kernel_rfl
theorem at_ {by_:Nat} {w:World} {A:Option Addr} {c:Nat} {l:List bj} (h:rep.aK by_ w A c l) (aG:0<l.length):
  ∃ b o,A=some ⟨b,o,none⟩∧∀ (i:Nat) (a:bj),l[i]? =some a→w.cell? ⟨b,o+i * 7,none⟩=some (.int .i64 (a.id))∧w.cell? ⟨b,o+i * 7+1,none⟩=some (.int .i64 (a.owner))∧w.cell? ⟨b,o+i * 7+2,none⟩=some (.int .i64 (a.kind))∧w.cell? ⟨b,o+i * 7+3,none⟩=some (.int .i64 (a.spot.x))∧w.cell? ⟨b,o+i * 7+4,none⟩=some (.int .i64 (a.spot.y))∧w.cell? ⟨b,o+i * 7+5,none⟩=some (.int .i64 (a.dW))∧w.cell? ⟨b,o+i * 7+6,none⟩=some (.int .i64 (a.load)):=by
 obtain ⟨b,o,e,hc⟩:=h.at_ aG;refine ⟨b,o,e,λ i a ha=> ?_⟩;obtain ⟨es,⟨rfl,_⟩,ay⟩:=hc i a ha;exact ⟨ay 0 _ Z,ay 1 _ Z,ay 2 _ Z,ay 3 _ Z,ay 4 _ Z,ay 5 _ Z,ay 6 _ Z⟩
theorem oD {by_:Nat} {w:World} {A:Option Addr} {c:Nat} {l:List bj} (h:rep.aK by_ w A c l):∀ a∈l,a.ok:=J.aK.AB (R:=rep) (Q:=ok) (fun {w cs a} (h:rep.has w cs a)=>(show cs=a.cells∧a.ok from h).2) h
theorem fI {w:World} {g:Nat} {t:TypeId} {aD:Nat×Nat} {a:bj} (h:aM w g a.cells t aD):w.cell? ⟨g,0,none⟩=some (.int .i64 (a.id))∧w.cell? ⟨g,1,none⟩=some (.int .i64 (a.owner))∧w.cell? ⟨g,2,none⟩=some (.int .i64 (a.kind))∧w.cell? ⟨g,3,none⟩=some (.int .i64 (a.spot.x))∧w.cell? ⟨g,4,none⟩=some (.int .i64 (a.spot.y))∧w.cell? ⟨g,5,none⟩=some (.int .i64 (a.dW))∧w.cell? ⟨g,6,none⟩=some (.int .i64 (a.load)):=
 ⟨h.cell 0,h.cell 1,h.cell 2,h.cell 3,h.cell 4,h.cell 5,h.cell 6⟩
def sh:hl:=(.cons (.int .i64) (.cons (.int .i64) (.cons (.int .i64) (.cons (.cons (.int .i64) (.cons (.int .i64) .nil)) (.cons (.int .i64) (.cons (.int .i64) .nil))))))
theorem opens (w:World) (cs:List Value) (h:sh.j_ w cs):∃ a,rep.has w cs a:=by
 obtain ⟨_,_,rfl,_,_,⟨dO,rfl,xJ⟩,⟨_,_,rfl,_,_,⟨eX,rfl,dw⟩,⟨_,_,rfl,_,_,⟨fA,rfl,dN⟩,⟨_,_,rfl,_,_,⟨_,_,rfl,_,_,⟨i_,rfl,hb⟩,⟨_,_,rfl,_,_,⟨rG,rfl,sj⟩,rfl⟩⟩,⟨_,_,rfl,_,_,⟨qw,rfl,mU⟩,⟨_,_,rfl,_,_,⟨rH,rfl,rj⟩,rfl⟩⟩⟩⟩⟩⟩:=h;exact ⟨⟨dO,eX,fA,⟨i_,rG⟩,qw,rH⟩,Z,xJ,dw,dN,hb,sj,mU,rj⟩
end bj
theorem kC {w:World} {cs:List Value} {a:bj} (h:bj.rep.has w cs a):cs=a.cells:=bas (show cs=a.cells∧a.ok from h)
open Tryz

structure aL where
 wide:Int
 high:Int
 a_:List Int
 deriving DecidableEq,Inhabited
structure ai where
 field:aL
 bf:List az
 bE:List Int
 bX:List Int
 ao:List bj
 next:Int
 now:Int
 deriving DecidableEq,Inhabited
namespace aL
def U6 (p:Int):Bool:=b9 p 0 3
def a7 (f:aL):Int :=
 if b9 f.wide 1 40 && b9 f.high 1 40 then (if decide ((f.a_.length:Int)=f.wide * f.high) && f.a_.all U6 then 0 else 4) else 1
def fP (f:aL) (c:az):Bool:=b9 c.x 0 (f.wide - 1) && b9 c.y 0 (f.high - 1)
def place (f:aL) (c:az):Int:=f.a_.getD (c.y * f.wide+c.x).toNat 0
def ground (f:aL) (c:az):Bool:=f.fP c && f.place c != 1
theorem eB {f:aL} (h:f.a7=0):1≤f.wide∧f.wide≤40∧1≤f.high∧f.high≤40∧(f.a_.length:Int)=f.wide * f.high∧∀ p∈f.a_,0≤p∧p≤3:=by
 unfold a7 at h;split at h
 ·rename_i κ
  rw [aYl] at κ;have a:=hV κ.1;have b:=hV κ.2;split at h
  ·rename_i τ
   rw [aYl,aYW] at τ;exact ⟨a.1,a.2,b.1,b.2,by simpa using τ.1,λ p hp=>hV (τ.2 p hp)⟩
  ·cases h
 ·cases h
theorem agP {f:aL} (h:(b9 f.wide 1 40 && b9 f.high 1 40)=false):f.a7=1:=by unfold a7;rw [h];rfl
theorem idx {f:aL} (h:f.a7=0) {c:az} (hc:f.fP c=true):0≤c.y * f.wide+c.x∧c.y * f.wide+c.x<(f.a_.length:Int)∧0≤c.x∧c.x<f.wide∧0≤c.y∧c.y<f.high:=by
 obtain ⟨g1,g2,g3,g4,g5,_⟩:=eB h;unfold fP at hc;rw [aYl] at hc;have a:=hV hc.1;have b:=hV hc.2;have aW:0≤c.y * f.wide:=bbH b.1 (by omega);have bb:c.y * f.wide≤(f.high - 1) * f.wide:=Int.mul_le_mul_of_nonneg_right b.2 (by omega);have df:(f.high - 1) * f.wide=f.wide * f.high - f.wide:=by rw [Int.sub_mul,Int.one_mul,Int.mul_comm]
 rw [g5];omega
theorem fa {f:aL} (h:f.a7=0):f.a_.length≤1600:=by
 obtain ⟨g1,g2,g3,g4,g5,_⟩:=eB h;have bb:f.wide * f.high≤40 * 40:=baX g2 g4 (by omega) (by omega);omega
end aL
namespace aL
def et (f:aL) (c:az):Int:=if f.a7≠0 then f.a7 else if f.fP c then 0 else 7
def oE (f:aL) (c:az):Int:=if f.a7≠0 then 0 else if f.fP c then f.place c else 0
theorem X0 {f:aL} {c:az} (h:f.a7≠0):f.et c=f.a7∧f.oE c=0:=by unfold et oE;rw [aYq h,aYq h];exact ⟨Z,Z⟩
theorem Np {f:aL} {c:az} (h:f.a7=0) (τ:f.fP c=false):f.et c=7∧f.oE c=0:=by unfold et oE;simp [h,τ]
theorem n8 {f:aL} {c:az} (h:f.a7=0) (τ:f.fP c=true):f.et c=0∧f.oE c=f.place c:=by unfold et oE;simp [h,τ]
theorem aEx {f:aL} {c:az} (h:c.x<0∨f.wide≤c.x∨c.y<0∨f.high≤c.y):f.fP c=false:=by
 unfold fP;rcases h with h | h | h | h
 ·rw [ri (.inl h)];rfl
 ·rw [ri (n:=c.x) (.inr (by omega))];rfl
 ·rw [ri (n:=c.y) (.inl h),aZF]
 ·rw [ri (n:=c.y) (.inr (by omega)),aZF]
theorem aEw {f:aL} {c:az} (κ:0≤c.x) (τ:c.x<f.wide) (au:0≤c.y) (aU:c.y<f.high):f.fP c=true:=by
 unfold fP;rw [nM κ (by omega),nM au (by omega)];rfl
end aL
def aTf (k:Int):Option (Int×Int×Int×Int):=if k=1 then some (10,1,1,5) else if k=2 then some (20,2,4,12) else none
namespace ai
def zC (W:ai) (i:Nat):Bool:=W.field.ground (W.bf.getD i default) && !(W.bf.take i).contains (W.bf.getD i default) && b9 (W.bE.getD i 0) 0 1000000
def pE (W:ai):Bool:=decide (W.bE.length=W.bf.length) && (List.range W.bf.length).all W.zC
def zD (W:ai) (i:Nat):Bool:=b9 (W.bX.getD i 0) 0 1000000 && (decide (W.bX.getD i 0≤0) || W.field.a_.getD i 0 == 3)
def ql (W:ai):Bool:=decide (W.bX.length=W.field.a_.length) && (List.range W.bX.length).all W.zD
def kV (W:ai) (i:Nat):Int:=if i=0 then 0 else (W.ao.getD (i - 1) default).id
def ni (k:Int):Int:=if k=1 then 10 else if k=2 then 20 else 0
def Dv (k:Int):Int:=if k=1 then 5 else 0
def PR (W:ai) (j2 Bq:Int) (t:bj):Bool :=
 b9 t.kind 1 2 && b9 t.id j2 Bq && b9 t.owner 0 ((W.bf.length:Int) - 1) && W.field.ground t.spot && b9 t.dW 1 (ni t.kind) && b9 t.load 0 (Dv t.kind)
def km (W:ai) (k:Nat):List az:=(W.ao.take k).map (·.spot)
def zE (W:ai) (i:Nat):Bool:=W.PR (wrap64 (W.kV i+1)) (wrap64 (W.next - 1)) (W.ao.getD i default) && !(W.km i).contains (W.ao.getD i default).spot
def lQ (W:ai):Bool:=(List.range W.ao.length).all W.zE && (b9 W.next 1 1000000 && b9 W.now 0 1000000)
def a7 (W:ai):Int :=
 if W.field.a7≠0 then W.field.a7 else if 8<W.bf.length∨100<W.ao.length then 2 else if W.pE && W.ql && W.lQ then 0 else 4
structure b7 where
 P:Option Addr
 B:Option Addr
 S:Option Addr
 M:Option Addr
 T:Option Addr
 p:Nat
 b:Nat
 s:Nat
 m:Nat
 t:Nat
def Kq (A:Option Addr) (c:Nat) (f:aL):List Value:= [.int .i64 f.wide, .int .i64 f.high, .slice A f.a_.length c]
def cells (h:b7) (W:ai):List Value :=
 [.int .i64 W.field.wide, .int .i64 W.field.high, .slice h.P W.field.a_.length h.p, .slice h.B W.bf.length h.b, .slice h.S W.bE.length h.s, .slice h.M W.bX.length h.m, .slice h.T W.ao.length h.t, .int .i64 W.next, .int .i64 W.now]
theorem awa (h:b7) (W:ai):(cells h W).toArray=#[.int .i64 W.field.wide, .int .i64 W.field.high, .slice h.P W.field.a_.length h.p, .slice h.B W.bf.length h.b, .slice h.S W.bE.length h.s, .slice h.M W.bX.length h.m, .slice h.T W.ao.length h.t, .int .i64 W.next, .int .i64 W.now]:=rfl
structure Has (w:World) (h:b7) (W:ai):Prop where
 P:bu.aK 8 w h.P h.p W.field.a_
 B:az.rep.aK 16 w h.B h.b W.bf
 S:bu.aK 8 w h.S h.s W.bE
 M:bu.aK 8 w h.M h.m W.bX
 T:bj.rep.aK 56 w h.T h.t W.ao
 nums:ea W.field.wide∧ea W.field.high∧ea W.next∧ea W.now
theorem Has.keep {w w':World} {h:b7} {W:ai} (hw:Has w h W) (ag:Below w.heap.size w w'):Has w' h W :=
 ⟨hw.P.keep ag,hw.B.keep ag,hw.S.keep ag,hw.M.keep ag,hw.T.keep ag,hw.nums⟩
def az5:hl:= .cons (.int .i64) (.cons (.int .i64) (.cons (.slice (.int .i64) 8) .nil))
def sh:hl:= .cons az5 (.cons (.slice az.sh 16) (.cons (.slice (.int .i64) 8) (.cons (.slice (.int .i64) 8) (.cons (.slice bj.sh 56) (.cons (.int .i64) (.cons (.int .i64) .nil))))))
theorem opens (w:World) (cs:List Value) (h:sh.j_ w cs):∃ h W,cs=cells h W∧Has w h W:=by
 obtain ⟨_,_,rfl,_,_,⟨_,_,rfl,_,_,⟨dO,rfl,xJ⟩,_,_,rfl,_,_,⟨eX,rfl,dw⟩,_,_,rfl,_,_,cK,rfl⟩,_,_,rfl,_,_,bg,_,_,rfl,_,_,hS,_,_,rfl,_,_,qZ,_,_,rfl,_,_,cB,_,_,rfl,_,_,⟨fA,rfl,dN⟩,_,_,rfl,_,_,⟨i_,rfl,hb⟩,rfl⟩:=h;obtain ⟨fH,avs,lP,rfl,Cb⟩:=J.Ls (R:=bu) ac5 rfl (by decide) cK;obtain ⟨gU,Yi,aEQ,rfl,aI⟩:=J.Ls (R:=az.rep) az.opens rfl (by decide) bg;obtain ⟨gV,Sf,aEV,rfl,gL⟩:=J.Ls (R:=bu) ac5 rfl (by decide) hS;obtain ⟨gd,avr,aEU,rfl,mi⟩:=J.Ls (R:=bu) ac5 rfl (by decide) qZ;obtain ⟨fM,eT,zn,rfl,sT⟩:=J.Ls (R:=bj.rep) bj.opens rfl (by decide) cB;exact ⟨⟨fH,gU,gV,gd,fM,avs,Yi,Sf,avr,eT⟩,⟨⟨dO,eX,lP⟩,aEQ,aEV,aEU,zn,fA,i_⟩,Z,Cb,aI,gL,mi,sT,xJ,dw,dN,hb⟩
theorem aiD {w:World} {g:Nat} {t:TypeId} {aD:Nat×Nat} {A:Option Addr} {c:Nat} {f:aL} (h:aM w g (Kq A c f) t aD):
  w.cell? ⟨g,0,none⟩=some (.int .i64 f.wide)∧w.cell? ⟨g,1,none⟩=some (.int .i64 f.high)∧w.cell? ⟨g,2,none⟩=some (.slice A f.a_.length c):=⟨h.cell 0,h.cell 1,h.cell 2⟩
theorem vl {w:World} {g:Nat} {t:TypeId} {aD:Nat×Nat} {a:b7} {W:ai} (h:aM w g (cells a W) t aD):
  w.cell? ⟨g,0,none⟩=some (.int .i64 W.field.wide)∧w.cell? ⟨g,1,none⟩=some (.int .i64 W.field.high)∧w.cell? ⟨g,2,none⟩=some (.slice a.P W.field.a_.length a.p)∧
  w.cell? ⟨g,3,none⟩=some (.slice a.B W.bf.length a.b)∧w.cell? ⟨g,4,none⟩=some (.slice a.S W.bE.length a.s)∧w.cell? ⟨g,5,none⟩=some (.slice a.M W.bX.length a.m)∧w.cell? ⟨g,6,none⟩=some (.slice a.T W.ao.length a.t)∧
  w.cell? ⟨g,7,none⟩=some (.int .i64 W.next)∧w.cell? ⟨g,8,none⟩=some (.int .i64 W.now):=⟨h.cell 0,h.cell 1,h.cell 2,h.cell 3,h.cell 4,h.cell 5,h.cell 6,h.cell 7,h.cell 8⟩
end ai
open Tryz

theorem aL.lj {f:aL} {c:az} (h:f.ground c=true):f.fP c=true:=by
 unfold aL.ground at h;rw [aYl] at h;exact h.1
namespace ai
theorem agO {W:ai} (h:W.field.a7≠0):W.a7=W.field.a7:=by unfold a7;rw [aYq h]
theorem Sm {W:ai} (h:W.field.a7=0) (τ:8<W.bf.length∨100<W.ao.length):W.a7=2:=by unfold a7;rw [aYi (by simpa using h),aYq τ]
theorem Yq {W:ai} (h:W.field.a7=0) (τ:¬ (8<W.bf.length∨100<W.ao.length)):W.a7=if W.pE && W.ql && W.lQ then 0 else 4:=by unfold a7;rw [aYi (by simpa using h),aYi τ]
end ai
theorem ai.aHP {W:ai} (h:¬ W.bE.length=W.bf.length):W.pE=false:=by unfold ai.pE;rw [aYL h];rfl
theorem ai.acO {W:ai} {k:Nat} (ak:k<W.bf.length) (h:W.zC k=false):W.pE=false:=by
 unfold ai.pE;rw [aZ7];right;rw [bbg];exact ⟨k,aY0.2 ak,by rw [h];simp⟩
theorem ai.an3 {W:ai} (h:W.bE.length=W.bf.length) (ha:∀ k,k<W.bf.length→W.zC k=true):W.pE=true:=by
 unfold ai.pE;rw [aYD h,bbj,aYW];exact λ k ak=>ha k (aY0.1 ak)
theorem ai.aGn {W:ai} (h:¬ W.bX.length=W.field.a_.length):W.ql=false:=by unfold ai.ql;rw [aYL h];rfl
theorem ai.anr {W:ai} {k:Nat} (ak:k<W.bX.length) (h:W.zD k=false):W.ql=false:=by
 unfold ai.ql;rw [aZ7];right;rw [bbg];exact ⟨k,aY0.2 ak,by rw [h];simp⟩
theorem ai.ans {W:ai} (h:W.bX.length=W.field.a_.length) (ha:∀ k,k<W.bX.length→W.zD k=true):W.ql=true:=by
 unfold ai.ql;rw [aYD h,bbj,aYW];exact λ k ak=>ha k (aY0.1 ak)
theorem ai.wy {W:ai} {k:Nat} (ak:k<W.ao.length) (h:W.zE k=false):W.lQ=false:=by
 unfold ai.lQ;rw [aZ7];left;rw [bbg];exact ⟨k,aY0.2 ak,by rw [h];simp⟩
def ig (id:Int) (t:bj):Bool:=t.id == id
def si (p:az) (t:bj):Bool:=decide (t.spot=p)
def aLV (W:ai) (p:bj→Bool):Int:=if W.a7=0 then max (gY p W.ao) 0 else 0
def aqj (W:ai) (p:bj→Bool):Bool:=decide (W.a7=0) && decide (0≤gY p W.ao)
def aGE (c:az) (r:Int) (t:bj):Bool:=b9 c.x (t.spot.x - r) (t.spot.x+r) && b9 c.y (t.spot.y - r) (t.spot.y+r)
def aVk (W:ai) (c:az) (r:Int):List Int:=(W.ao.filter (aGE c r)).map (·.id)
def aVj (W:ai) (r:Int):Int:=if W.a7≠0 then W.a7 else if b9 r 0 12 then 0 else 1
theorem ZT {W:ai} (h:W.a7=0):W.field.a7=0∧W.bf.length≤8∧W.ao.length≤100∧W.pE=true∧W.ql=true∧W.lQ=true:=by
 by_cases κ:W.field.a7=0
 ·by_cases τ:8<W.bf.length∨100<W.ao.length
  ·rw [ai.Sm κ τ] at h;cases h
  ·rw [ai.Yq κ τ] at h;split at h
   ·rename_i au
    rw [aYl,aYl] at au;exact ⟨κ,by omega,by omega,au.1.1,au.1.2,au.2⟩
   ·cases h
 ·rw [ai.agO κ] at h;exact absurd h κ
theorem Tj {W:ai} (h:W.a7=0) {k:Nat} {t:bj} (aH:W.ao[k]? =some t):W.field.ground t.spot=true∧b9 t.kind 1 2=true∧b9 t.owner 0 ((W.bf.length:Int) - 1)=true∧b9 t.dW 1 (ai.ni t.kind)=true∧b9 t.load 0 (ai.Dv t.kind)=true∧(W.km k).contains t.spot=false∧b9 t.id (wrap64 (W.kV k+1)) (wrap64 (W.next - 1))=true:=by
 obtain ⟨aG,_,_,_,_,cq⟩:=ZT h;unfold ai.lQ at cq;rw [aYl,aYW] at cq;have ak:=(aX8.1 aH).1;have ew:=cq.1 k (aY0.2 ak);unfold ai.zE ai.PR at ew;rw [aX7,aH] at ew;simp only [aZm,aYl,aZv] at ew;obtain ⟨⟨⟨⟨⟨⟨b2,a2⟩,a3⟩,a4⟩,a5⟩,EI⟩,EJ⟩:=ew;exact ⟨a4,b2,a3,a5,EI,EJ,a2⟩
open Tryz

theorem anu {W:ai} (h:W.a7=0):1≤W.next∧W.next≤1000000∧0≤W.now∧W.now≤1000000:=by
 obtain ⟨_,_,_,_,_,cq⟩:=ZT h;unfold ai.lQ at cq;rw [aYl,aYl] at cq;have a:=hV cq.2.1;have b:=hV cq.2.2;exact ⟨a.1,a.2,b.1,b.2⟩
theorem wrap_small {x:Int} (κ: -1000≤x) (τ:x≤2000000):wrap64 x=x:=by
 have h:=bbz x;unfold wrap64;first | (rw [h];omega) | omega
theorem aDZ {W:ai} (h:W.a7=0):∀ (k:Nat) (t:bj),W.ao[k]? =some t→W.kV k<t.id∧t.id<W.next∧0≤W.kV k:=by
 obtain ⟨zB,ru,_,_⟩:=anu h;intro k;induction k with
 | zero =>
  intro t aH;have ew:=hV (Tj h aH).2.2.2.2.2.2;have e:W.kV 0=0:=rfl;rw [e] at ew ⊢;rw [wrap_small (by omega) (by omega),wrap_small (by omega) (by omega)] at ew;omega
 | succ k bL =>
  intro t aH;have bF:=(aX8.1 aH).1;obtain ⟨u,hu⟩:=ic (l:=W.ao) (i:=k) (by omega);have gB:=bL u hu;have ew:=hV (Tj h aH).2.2.2.2.2.2;have e:W.kV (k+1)=u.id:=by
   unfold ai.kV;rw [aYi (by omega),aX7,bbX,hu];rfl
  rw [e] at ew ⊢;rw [wrap_small (by omega) (by omega),wrap_small (by omega) (by omega)] at ew;omega
open Tryz
structure RS (f:aL) (iJ:Nat) (t:bj):Prop where
 kind:t.kind=1∨t.kind=2
 owner:0≤t.owner∧t.owner<(iJ:Int)
 ground:f.ground t.spot=true
 dW:1≤t.dW∧t.dW≤ai.ni t.kind
 load:0≤t.load∧t.load≤ai.Dv t.kind
structure Good (W:ai):Prop where
 field:W.field.a7=0
 iJ:W.bf.length≤8
 dJ:W.ao.length≤100
 sl:W.bE.length=W.bf.length
 bf:∀ (i:Nat) c,W.bf[i]? =some c→W.field.ground c=true∧(W.bf.take i).contains c=false
 bE:∀ (i:Nat) s,W.bE[i]? =some s→0≤s∧s≤1000000
 FZ:W.bX.length=W.field.a_.length
 bX:∀ (i:Nat) m,W.bX[i]? =some m→0≤m∧m≤1000000∧(m≤0∨W.field.a_.getD i 0=3)
 ao:∀ (i:Nat) t,W.ao[i]? =some t→RS W.field W.bf.length t
 ids:∀ (i:Nat) t,W.ao[i]? =some t→W.kV i<t.id∧t.id<W.next∧0≤W.kV i
 km:∀ (i:Nat) t,W.ao[i]? =some t→(W.km i).contains t.spot=false
 next:1≤W.next∧W.next≤1000000
 now:0≤W.now∧W.now≤1000000
theorem Good.Dx {W:ai} (h:W.a7=0):Good W:=by
 obtain ⟨aG,gB,y3,hp,hm,aH⟩:=ZT h;obtain ⟨zB,ru,oj,pz⟩:=anu h;unfold ai.pE at hp;unfold ai.ql at hm;rw [aYl,aYW] at hp hm;have xG:W.bE.length=W.bf.length:=by simpa using hp.1
 have TU:W.bX.length=W.field.a_.length:=by simpa using hm.1
 refine ⟨aG,gB,y3,xG,λ i c hc=> ?_,λ i s hs=> ?_,TU,λ i m hi=> ?_,λ i t hi=> ?_,λ i t hi=>aDZ h i t hi,λ i t hi=>(Tj h hi).2.2.2.2.2.1,⟨zB,ru⟩,⟨oj,pz⟩⟩
 ·have bF:=(aX8.1 hc).1;have:=hp.2 i (aY0.2 bF);unfold ai.zC at this;rw [aX7,hc] at this;simp only [aZm,aYl,aZv] at this;exact ⟨this.1.1,this.1.2⟩
 ·have bF:=(aX8.1 hs).1;have:=hp.2 i (aY0.2 (by omega));unfold ai.zC at this;rw [aYl] at this;have τ:=hV this.2;rw [aX7,hs] at τ;exact τ
 ·have bF:=(aX8.1 hi).1;have:=hm.2 i (aY0.2 bF);unfold ai.zD at this;rw [aX7,hi,aYl,aYZ] at this;have τ:=hV this.1;refine ⟨τ.1,τ.2, ?_⟩;rcases this.2 with au | au
  ·exact .inl (by simpa using au)
  ·exact .inr (by simpa using au)
 ·obtain ⟨b2,a2,a3,a4,a5,_,_⟩:=Tj h hi;have fw:=hV a2;have hQ:=hV a3;have xa:=hV a4;have EO:=hV a5;exact ⟨by omega,⟨hQ.1,by omega⟩,b2,xa,EO⟩
theorem Good.a7 {W:ai} (h:Good W):W.a7=0:=by
 have hp:W.pE=true:=ai.an3 h.sl λ k ak=>by
  obtain ⟨c,hc⟩:=ic ak;obtain ⟨s,hs⟩:=ic (l:=W.bE) (i:=k) (by rw [h.sl];exact ak);unfold ai.zC;rw [aX7,hc,aX7,hs];have κ:=h.bf k c hc;have τ:=h.bE k s hs;simp only [aZm];rw [κ.1,κ.2,nM τ.1 τ.2];rfl
 have hm:W.ql=true:=ai.ans h.FZ λ k ak=>by
  obtain ⟨m,hm⟩:=ic ak;have κ:=h.bX k m hm;unfold ai.zD;rw [aX7,hm];simp only [aZm];rw [nM κ.1 κ.2.1,bbj,aYZ];rcases κ.2.2 with au | au
  ·exact .inl (by simpa using au)
  ·exact .inr (by simpa using au)
 have aH:W.lQ=true:=by
  unfold ai.lQ;rw [nM h.next.1 h.next.2,nM h.now.1 h.now.2,Bool.and_true,Bool.and_true,aYW];intro k ak;obtain ⟨t,aH⟩:=ic (aY0.1 ak);have κ:=h.ao k t aH;have τ:=h.ids k t aH;have au:=h.km k t aH;have hn:=h.next;unfold ai.zE ai.PR;rw [aX7,aH];simp only [aZm];have dw:b9 t.kind 1 2=true:=by
   rcases κ.kind with h | h
   ·exact nM (by omega) (by omega)
   ·exact nM (by omega) (by omega)
  have dN:b9 t.id (W.kV k+1) (W.next - 1)=true:=nM (by omega) (by omega);have hb:b9 t.owner 0 ((W.bf.length:Int) - 1)=true:=nM κ.owner.1 (by have:=κ.owner.2;omega);rw [wrap_small (by omega) (by omega),wrap_small (by omega) (by omega),dw,dN,hb,au,κ.ground,nM κ.dW.1 κ.dW.2,nM κ.load.1 κ.load.2];rfl
 rw [ai.Yq h.field (by have:=h.iJ;have:=h.dJ;omega),hp,hm,aH];rfl
open Tryz
structure bH (w:World) (aA:Nat) (a:ai.b7) (W:ai):Prop where
 P:bu.aF 3 8 w aA (J.ab a.P) a.P a.p W.field.a_
 B:az.rep.aF 55 16 w aA (J.ab a.B) a.B a.b W.bf
 S:bu.aF 3 8 w aA (J.ab a.S) a.S a.s W.bE
 M:bu.aF 3 8 w aA (J.ab a.M) a.M a.m W.bX
 T:bj.rep.aF 57 56 w aA (J.ab a.T) a.T a.t W.ao
 apart:(J.ab a.P++J.ab a.B++J.ab a.S++J.ab a.M++J.ab a.T).Nodup
 nums:ea W.field.wide∧ea W.field.high∧ea W.next∧ea W.now
theorem bH.has {w:World} {B:Nat} {a:ai.b7} {W:ai} (h:bH w B a W):ai.Has w a W:=⟨h.P.has,h.B.has,h.S.has,h.M.has,h.T.has,h.nums⟩
theorem bH.later {w w':World} {B:Nat} {a:ai.b7} {W:ai} (h:bH w B a W) (ag:Below w.heap.size w w'):bH w' B a W:=⟨h.P.later ag,h.B.later ag,h.S.later ag,h.M.later ag,h.T.later ag,h.apart,h.nums⟩
def bH.cR (a:ai.b7):List Nat:=J.ab a.P++J.ab a.B++J.ab a.S++J.ab a.M++J.ab a.T
theorem bH.lt {w:World} {B:Nat} {a:ai.b7} {W:ai} (h:bH w B a W):∀ g∈bH.cR a,B≤g∧g<w.heap.size:=by
 intro g aN;unfold bH.cR at aN;simp only [aYo] at aN;rcases aN with (((aN | aN) | aN) | aN) | aN
 ·exact h.P.lt g aN
 ·exact h.B.lt g aN
 ·exact h.S.lt g aN
 ·exact h.M.lt g aN
 ·exact h.T.lt g aN
theorem bH.other {w:World} {B:Nat} {a:ai.b7} {W:ai} (h:bH w B a W) {p:Addr} (hp:p.block∉bH.cR a) (u:Value):bH (w.setCell p u) B a W:=by
 unfold bH.cR at hp;simp only [aYo,not_or] at hp;exact ⟨h.P.other hp.1.1.1.1 u,h.B.other hp.1.1.1.2 u,h.S.other hp.1.1.2 u,h.M.other hp.1.2 u,h.T.other hp.2 u,h.apart,h.nums⟩
theorem Lp {w:World} {B:Nat} {A:Option Addr} {α:Type} {R:J α} {E by_ c:Nat} {l:List α} (h:R.aF E by_ w B (J.ab A) A c l) {g:Nat} (aN:g<B):g∉J.ab A:=λ hm=>by have:=h.lt g hm;omega
theorem Gx {w:World} {g:Nat} {dO eX fA i_ rG qw rH sD pK:Value} {t:TypeId} {aD:Nat×Nat} (h:aM w g [dO,eX,fA,i_,rG,qw,rH,sD,pK] t aD):w.cell? ⟨g,0,none⟩=some dO∧w.cell? ⟨g,1,none⟩=some eX∧w.cell? ⟨g,2,none⟩=some fA∧w.cell? ⟨g,3,none⟩=some i_∧w.cell? ⟨g,4,none⟩=some rG∧w.cell? ⟨g,5,none⟩=some qw∧w.cell? ⟨g,6,none⟩=some rH∧w.cell? ⟨g,7,none⟩=some sD∧w.cell? ⟨g,8,none⟩=some pK :=
 ⟨h.cell 0,h.cell 1,h.cell 2,h.cell 3,h.cell 4,h.cell 5,h.cell 6,h.cell 7,h.cell 8⟩
theorem RX {fo kU:List Nat} {n m:Nat} (κ:fo.Nodup∧∀ g∈fo,g<n) (τ:kU.Nodup) (au:∀ g∈kU,n≤g∧g<m) (aSr:n≤m):(fo++kU).Nodup∧∀ g∈fo++kU,g<m:=by
 refine ⟨aY7.2 ⟨κ.1,τ,λ a ha b ag e=> ?_⟩,λ g aN=> ?_⟩
 ·have:=κ.2 a ha;have:=(au b ag).1;omega
 ·rcases aYo.1 aN with aN | aN
  ·have:=κ.2 g aN;omega
  ·exact (au g aN).2
theorem xe (A:Option Addr):(J.ab A).Nodup:=by cases A<;>simp [J.ab]
theorem aGG {w:World} {g:Nat} {z0 nV z2 z3 z4 z5 aMo aMp aMq:Value} {t:TypeId} {aD:Nat×Nat} (h:aM w g [z0,nV,z2,z3,z4,z5,aMo,aMp,aMq] t aD) (dO eX fA i_ rG qw rH sD pK:Value):aM (((((((((w.setCell ⟨g,0,none⟩ dO).setCell ⟨g,1,none⟩ eX).setCell ⟨g,2,none⟩ fA).setCell ⟨g,3,none⟩ i_).setCell ⟨g,4,none⟩ rG).setCell ⟨g,5,none⟩ qw).setCell ⟨g,6,none⟩ rH).setCell ⟨g,7,none⟩ sD).setCell ⟨g,8,none⟩ pK) g [dO,eX,fA,i_,rG,qw,rH,sD,pK] t aD :=
 (((((((((h.set 0 dO).set 1 eX).set 2 fA).set 3 i_).set 4 rG).set 5 qw).set 6 rH).set 7 sD).set 8 pK)
theorem bH.nine {w:World} {aA:Nat} {a:ai.b7} {W:ai} {g:Nat} (h:bH w aA a W) (aN:g∉bH.cR a) (dO eX fA i_ rG qw rH sD pK:Value):bH (((((((((w.setCell ⟨g,0,none⟩ dO).setCell ⟨g,1,none⟩ eX).setCell ⟨g,2,none⟩ fA).setCell ⟨g,3,none⟩ i_).setCell ⟨g,4,none⟩ rG).setCell ⟨g,5,none⟩ qw).setCell ⟨g,6,none⟩ rH).setCell ⟨g,7,none⟩ sD).setCell ⟨g,8,none⟩ pK) aA a W :=
 (((((((((h.other (p:=⟨g,0,none⟩) aN dO).other (p:=⟨g,1,none⟩) aN eX).other (p:=⟨g,2,none⟩) aN fA).other (p:=⟨g,3,none⟩) aN i_).other (p:=⟨g,4,none⟩) aN rG).other (p:=⟨g,5,none⟩) aN qw).other (p:=⟨g,6,none⟩) aN rH).other (p:=⟨g,7,none⟩) aN sD).other (p:=⟨g,8,none⟩) aN pK)
theorem auX {w0 w:World} {aA g:Nat} (h:Below aA w0 w) (aN:aA≤g) (dO eX fA i_ rG qw rH sD pK:Value):Below aA w0 (((((((((w.setCell ⟨g,0,none⟩ dO).setCell ⟨g,1,none⟩ eX).setCell ⟨g,2,none⟩ fA).setCell ⟨g,3,none⟩ i_).setCell ⟨g,4,none⟩ rG).setCell ⟨g,5,none⟩ qw).setCell ⟨g,6,none⟩ rH).setCell ⟨g,7,none⟩ sD).setCell ⟨g,8,none⟩ pK):=
 (((((((((h.setCell (p:=⟨g,0,none⟩) aN dO).setCell (p:=⟨g,1,none⟩) aN eX).setCell (p:=⟨g,2,none⟩) aN fA).setCell (p:=⟨g,3,none⟩) aN i_).setCell (p:=⟨g,4,none⟩) aN rG).setCell (p:=⟨g,5,none⟩) aN qw).setCell (p:=⟨g,6,none⟩) aN rH).setCell (p:=⟨g,7,none⟩) aN sD).setCell (p:=⟨g,8,none⟩) aN pK)
def afF (w nx:World) (ei:Option Addr) (pC:Nat) (W:ai) (gd:Option Addr) (gF:Nat) (fM:Option Addr) (gh ru:Nat):Prop :=
 ∃ (fN:Option Addr) (n9:Nat) (eF:Option Addr) (oo oj pz:Nat),aM nx w.heap.size [.int .i64 W.field.wide, .int .i64 W.field.high, .slice ei W.field.a_.length pC, .slice fN W.bf.length n9, .slice eF W.bE.length oo, .slice gd W.bX.length gF, .slice fM W.ao.length gh, .int .i64 W.next, .int .i64 W.now] 28 (0,0)∧
  aM nx (w.heap.size+1) [.int .i64 0, .int .i64 0, .slice none 0 0, .slice none 0 0, .slice none 0 0, .slice none 0 0, .slice none 0 0, .int .i64 0, .int .i64 0] 28 (0,0)∧bu.aF 3 8 nx w.heap.size (J.ab ei) ei pC W.field.a_∧az.rep.aF 55 16 nx ru (J.ab fN) fN n9 W.bf∧bu.aF 3 8 nx oj (J.ab eF) eF oo W.bE∧
  (∀ g∈J.ab fN,ru≤g∧g<oj)∧(∀ g∈J.ab eF,oj≤g∧g<pz)∧Below w.heap.size w nx∧ru≤oj∧oj≤pz∧pz=nx.heap.size
open Tryz

namespace J
variable {α:Type} {R:J α}
theorem azP {β:Type} {size:Nat} {X:List (List β)} {i:Nat} {es:List β} (Fe:∀ x∈X,x.length=size) (hi:i<X.length):(X.set i es).flatten=X.flatten.take (i * size)++es++X.flatten.drop (i * size+size):=by
 rw [baS,aYq hi,aZZ,aZa,S' i Fe,Zw (i+1) Fe,aZ1,aYK]
theorem aJ7 {β:Type} {cur es:List β} {p n k:Nat} (ak:es.length=k) (κ:p+k≤n) (τ:n≤cur.length):(cur.take p++es++cur.drop (p+k)).take n=(cur.take n).take p++es++(cur.take n).drop (p+k):=by
 apply aZW;intro j;subst ak;simp only [aYO,List.getElem?_append,aX9,aYa,aZk]
 grind
theorem aF.aoM {E by_ B c i g:Nat} {f:List Nat} {l:List α} {w:World} {q':α} {es:List Value} {cur:Array Value} (h:R.aF E by_ w B f (some ⟨g,0,none⟩) c l) (hp:R.rV) (hi:i<l.length) (I:∀ w,R.has w es q') (vY:w.heap[g]? =some (.cells cur E (0,0))):
  R.aF E by_ (w.setRow g (cur.toList.take (i * R.size)++es++cur.toList.drop (i * R.size+es.length)).toArray) B f (some ⟨g,0,none⟩) c (l.set i q')∧i * R.size+es.length≤cur.toList.length:=by
 obtain ⟨ag,ps,rfl,hn,bK,dM⟩:=h;have KT:es.length=R.size:=R.len (I w);have ah:=U4 dM;have pg:ps.length=l.length:=dM.length;obtain ⟨iG,C'⟩:=bK;obtain ⟨g',cap,EW,hv,KB,eI,C5,oc,kF,re,bP⟩:=C'.resolve_left (λ bc=>nomatch bc.1);injection hv with qd FH aDJ
 injection qd with qd
 injection qd with qd aSH aSI
 subst qd aDJ;rw [eI] at vY;injection vY with vY
 injection vY with vY
 subst vY;have hle:i * R.size+R.size≤l.length * R.size:=by rw [← aZ1];exact aYY _ hi
 have aR0:l.length * R.size≤c * R.size:=aYY _ C5;have xG:EW.toList.length=c * R.size:=by rw [aZ0,kF]
 obtain ⟨x,hx,Dc⟩:=dM.at_ (dt (l:=l) (u:=q') hi);have fg:x.1= []:=hp.2 Dc;have aaI:∀ y∈ps,∀ q∈y.1,q≠g:=λ y aE q I e=>by
  obtain ⟨b,H3⟩:=dM.left y aE;rw [hp.2 H3] at I;simp at I
 have aW:(ps.set i (x.1,es)).map (·.1)=ps.map (·.1):=by
  rw [aZu];have:(ps.map (·.1))[i]? =some x.1:=by rw [aYv,hx];rfl
  obtain ⟨τ,au⟩:=aX8.1 this
  conv=>lhs;rw [← au]
  exact aZ6 _
 have bb:(ps.set i (x.1,es)).map (·.2)=(ps.map (·.2)).set i es:=by rw [aZu]
 have akd:=azP (es:=es) ah (by rw [aYT];omega:i<(ps.map (·.2)).length);rw [KT];refine ⟨⟨by rw [aYn];exact ag,ps.set i (x.1,es),by rw [aW],hn,⟨?_, .inr ⟨g,c,(EW.toList.take (i * R.size)++es++EW.toList.drop (i * R.size+R.size)).toArray,by rw [aYn],KB, ?_,by rw [aYn];exact C5,oc, ?_, ?_, ?_⟩⟩, ?_⟩,by omega⟩
 ·rw [bb,akd,aYn];simp only [aX9,aYa,aYs,iG,KT];omega
 ·exact aM.setRow (cur:=EW.toList) (by simpa [aM] using eI) _
 ·rw [aZT];simp only [aX9,aYa,aYs,xG,KT];omega
 ·rw [aYn,bb,akd,← re];exact aJ7 KT hle (by omega)
 ·intro j u hu;rw [bbC] at hu;by_cases κ:j<i * R.size
  ·refine bP j u ?_;rw [aYK,aYw (by rw [aYa];omega),aYO,aYq κ] at hu;rw [← aZe];exact hu
  ·by_cases τ:j<i * R.size+R.size
   ·rw [aYK,aYy (by rw [aYa];omega),aYw (by rw [aYa];omega),aYa] at hu;have ay:j % R.size=j - i * R.size:=by
     have au:j=R.size * i+(j - i * R.size):=by rw [aZq];omega
     have bN:(j - i * R.size) % R.size=j - i * R.size:=aZz (by omega)
     conv=>lhs;rw [au,baL,bN]
    rw [ay];exact R.xY (I w) _ u (by rw [aZx (by omega)] at hu;exact hu)
   ·refine bP j u ?_;rw [aYy (by simp only [aX9,aYa];omega),aZk] at hu;rw [← aZe];rw [show i * R.size+R.size+(j - (List.take (i * R.size) EW.toList++es).length)=j from by simp only [aX9,aYa];omega] at hu;exact hu
 ·have aat:dC (λ x a=>R.own (w.setRow g (EW.toList.take (i * R.size)++es++EW.toList.drop (i * R.size+R.size)).toArray) B x.1 x.2 a) ps l:=dM.imp λ y a aE zi=>R.rA zi λ q I=>(Mod.setRow w g _).block q (R.xV zi q I).2 (by simpa using aaI y aE q I);exact aat.adp (P:=λ (x:List Nat×List Value) a=>R.own _ B x.1 x.2 a) (by rw [fg];exact hp.1 (I _))
end J
section
variable {P:Program} {n:Nat} {E cW:List (Nat×Value)} {a:Act} {w w' w0 w1:World} {Q:Exit→Act→World→Prop} {ops:Array Oper} {v:Value}
variable {d:Option Nat} {ty:TypeId} {pos:String} {af:Array Edge} {g:Option (Nat×Bool)} {x y z:Operand} {t:TypeId} {rest:List Oper}
theorem P' {α:Type} {R:J α} {e by_ B i:Nat} {A:Option Addr} {c:Nat} {l:List α} {q':α} {p:Addr} {es:List Value} (h:R.aF e by_ w B (J.ab A) A c l) (hR:R.rV) (hi:i<l.length) (hx:ev E x=some (.pointer (some p))) (hp:p=⟨fN A,mA A+i * R.size,none⟩) (aE:ev E y=some v) (hc:v.cells=es.toArray)
  (I:∀ w,R.has w es q') (hs:eS P t es.length)
  (ak:∀ w1,Mod (J.ab A) w w1→R.aF e by_ w1 B (J.ab A) A c (l.set i q')→cg P n ops Q rest E w1):cg P n ops Q (⟨none, .store t x y,ty,pos,af,none⟩::rest) E w:=by
 obtain ⟨b,rfl⟩:=h.block (by omega);have OV:p=⟨b,i * R.size,none⟩:=by rw [hp];simp [fN,mA]
 subst OV;obtain ⟨_,ps,_,_,bK,_⟩:=id h;obtain ⟨cur,vY,_,_⟩:=bK.agL;obtain ⟨xF,hle⟩:=J.aF.aoM (q':=q') h hR hi I vY;have g_:=ade (P:=P) (w:=w) (b:=b) (p:=i * R.size) (cur:=cur.toList) (e:=e) (by simpa [aM] using vY) hc hs (aYW.2 (R.one (I w))) hle;refine us (λ n a ha=> ?_) (ak _ (Mod.setRow w b _) xF);simp only [execOp,ha.ev hx,ha.ev aE,Instr.storeAt,Instr.sureAddr,aYt,aYu,aYj,g_]
def acL (A:Option Addr) (aO8:Nat):Option Addr:=A
theorem LI {A:Option Addr} {len cap e s:Nat} {k:IntKind} (hi m:Nat) {i:Int} (aH:P.underlying t=some (.slice e)) (hs:eS P e s) (hx:ev E x=some (.slice A len cap)) (aE:ev E y=some (.int k i)) (κ:i=(hi:Int)) (τ:hi≤cap) (hm:m=hi):c9 P E ⟨d, .slice t x none (some y) none,ty,pos,af,g⟩ w (.slice (acL A hi) m cap) w:=λ n a ha=>by
 subst κ;subst hm;have κ:P.underlying t=some (.slice (P.elem t)):=by simp [Program.elem,aH]
 have nt:P.elem t=e:=by simp [Program.elem,aH]
 have au:=run_slice_h (P:=P) (w:=w) t A len cap κ k (m:Int) (by omega) (by omega);have aU:=bay (P:=P) (w:=w) t (.slice A len cap) none (some (.int k (m:Int))) none κ;rw [nt,hs w] at au;simp only [execOp,ha.ev hx,ha.ev aE,Option.map,aU,au,aYt,aYj,aYu,sliced,aY2,Nat.sub_zero];unfold acL;cases A with
 | none=>simp
 | some a=>simp [Addr.add]
end
theorem J.aK.pre {α:Type} {R:J α} {by_ c:Nat} {A:Option Addr} {l:List α} {w:World} (h:R.aK by_ w A c l) (k:Nat):R.aK by_ w (acL A k) c (l.take k):=h.LN k
open Tryz
section
variable {P:Program} {n:Nat} {E:List (Nat×Value)} {w:World} {Q:Exit→Act→World→Prop} {ops:Array Oper} {aS:Nat→Nat}
def aeJ (P:Program) (ops:Array Oper) (Q:Exit→Act→World→Prop) (aS:Nat→Nat) (aNn aNo:List Nat):Exit→Act→World→Prop :=
 ij (λ a w=>wJ P ops (ij (Q .normal)) aS aNn a w∧wJ P ops (ij (Q .normal)) aS aNo a w)
theorem aoo {id:Nat} (mz:List (Nat×Nat)) (bY:List Nat) (i:Nat) (BO:List Nat) (j:Nat) (GO:List Nat) (hm:P.follows .mixedOrders=true)
  (bg:(Region.noSelect ops && (bY.length+(BO.length+1)== ops.size) && (BO.length == GO.length) && Nat.blt 1 (oO mz i) && Nat.blt 1 (oO mz j) && HN ops (oO mz) bY (Array.replicate ops.size false) && (Region.ready .any ops (By bY (Array.replicate ops.size false))== [i,j]) && lh ops (oO mz) BO ((By bY (Array.replicate ops.size false)).setIfInBounds i true) && lh ops (oO mz) GO ((By bY (Array.replicate ops.size false)).setIfInBounds j true))=true)
  (h:gI P n ops (aeJ P ops Q (oO mz) (i::BO) (j::GO)) (oO mz) bY E w):W P n (.region id ops true) Q E w:=λ a ha=>by
 simp only [aYl,aZf,bbW] at bg;obtain ⟨⟨⟨⟨⟨⟨⟨⟨hs,ah⟩,hlen⟩,hi⟩,ay⟩,κ⟩,hr⟩,τ⟩,au⟩:=bg;refine wp_mono (bb6 hm (Q:=ij (Q .normal)) ?_) (λ e a w I=>by cases e<;>first | exact I | exact I.elim);have:=XX (P:=P) hs (Q:=ij (Q .normal)) (λ _ _ _ h=>h) (m:=BO.length+1) bY (Array.replicate ops.size false) a w (by simp) κ (h a ha) (λ a w0 eI=>by
  have eI:wJ P ops (ij (Q .normal)) (oO mz) (i::BO) a w0∧wJ P ops (ij (Q .normal)) (oO mz) (j::GO) a w0:=eI w0 (Ext.cH w0);refine ⟨λ aG=>(by rw [hr] at aG;cases aG),λ q I=> ?_⟩;rw [hr] at I;have I:q=i∨q=j:=by simpa using I
  rcases I with rfl | rfl
  ·obtain ⟨⟨o,bK,h⟩,_⟩:=eI;rcases h with ⟨ak,_⟩ | ⟨ak,_⟩ | ⟨ak,h⟩
   ·omega
   ·omega
   ·exact ⟨o,bK, .inr ⟨ak,λ w hw=>baI (λ a' w' au=>⟨au.1,Hp hs (λ _ _ _ h=>h) BO _ _ _ (by simp [adn]) τ au.2⟩) (h w hw)⟩⟩
  ·obtain ⟨_,⟨o,bK,h⟩⟩:=eI;rcases h with ⟨ak,_⟩ | ⟨ak,_⟩ | ⟨ak,h⟩
   ·omega
   ·omega
   ·exact ⟨o,bK, .inr ⟨ak,λ w hw=>baI (λ a' w' bN=>⟨bN.1,by rw [hlen];exact Hp hs (λ _ _ _ h=>h) GO _ _ _ (by simp [adn]) au bN.2⟩) (h w hw)⟩⟩)
 rw [ah] at this;exact EM _ _ _ _ this _ (aYG _ w).drew
theorem aiJ {BO GO:List Nat} (κ:gI P n ops Q aS BO E w) (τ:gI P n ops Q aS GO E w):N n (aeJ P ops Q aS BO GO) E w:=λ a ha=>⟨κ a ha,τ a ha⟩
end
open Tryz
section
variable {f:FuncId} {args:Array Value} {o:Oper} {a:Act} {l:List Oper} {b k D B e by_ cap s:Nat} {vs:List Value} {op:Op} {ts:Array TypeId} {Y:World} {S:List Nat} {α:Type} {A:Option Addr}
def lf (ro:Option Nat):Fence:= {Fence.wide with round:=ro}
section
variable {P:Program} {ro:Option Nat} {m:Nat} {ops:Array Oper} {Q:Exit→Act→World→Prop} {w:World}
theorem agJ {R:Ending→World→Prop} (h:Calls P f args w R):CallsIn (lf ro) m P f args w R:=(callsIn_wide (n:=m)).2 h
theorem aIQ {row:String} {R:Value→World→Prop} (h:Rows P row args w R):RowsIn (lf ro) m P row args w R:=λ c cs _ =>
 let ⟨v,w',r,s⟩:=h c cs;⟨v,w',r,stepsIn_wide.2 s⟩
def F0 (o:Oper):Bool:=match o.op with
 | .defer _=>false
 | _=>true
theorem anR {K:Act→World→Prop} (hd:F0 o=true) (h:o.wp P a w K Q):o.wpIn (lf ro) m P a w K Q:=by
 refine ⟨λ _ _=>trivial, ?_⟩;have hs:o.semAt (lf ro).round a.eval=execOp a.eval o:=bbo _ _ _ (λ c e=>by simp [F0,e] at hd);rw [hs];unfold Oper.wp at h;generalize (execOp a.eval o).run P w=r at *
 cases r with
 | ok x w' =>
  cases x<;>simp only [Oper.upon] at h<;>simp only [Oper.uponIn] <;>
   first
    | exact h
    | exact h.elim
    | exact ⟨λ h=>by simp [lf,Fence.wide] at h,agJ h⟩
    | exact ⟨λ h=>by simp [lf,Fence.wide] at h,aIQ h⟩
 | halt x w'=>cases x<;>simp only [Oper.upon] at h<;>simp only [Oper.uponIn]<;>first | exact h | exact h.elim
theorem abW:∀ (l:List Oper) {a:Act} {w:World},l.all F0=true→wpList P ops Q l a w→(∀ c a w,¬ Q (.panic c) a w)→¬ LetsOut Q→wpListIn (lf ro) m P ops Q l a w
 | [],a,w,_,h,_,_=>by unfold wpList at h;unfold wpListIn;exact h
 | o::rest,a,w,hd,h,hp,bK=>by
  rw [List.all_cons,aYl] at hd;unfold wpList at h;unfold wpListIn;split at h
  ·rename_i hw
   rw [aYq hw];rcases h with h | ⟨h,x⟩
   ·exact Oper.wpIn_mono (λ a w h=>abW rest hd.2 h hp bK) (anR hd.1 h)
   ·exact (bK x).elim
  ·rename_i hw
   rw [aYi hw];exact ⟨λ _ _=>trivial,abW rest hd.2 h hp bK⟩
theorem aLW {i:Nat} {K:Act→World→Prop} {w:World} (hd:ops.toList.all F0=true) (bK:¬ LetsOut Q) (h:wpOp P ops Q i K a w):wpOpIn (lf ro) m P ops Q i K a w:=by
 unfold wpOp at h;unfold wpOpIn;split at h
 ·rename_i hi;simp only [hi];exact h
 ·rename_i o hi
  simp only [hi];have aBW:F0 o=true:=aYW.1 hd o (by rw [bc9];exact bc4 hi);split at h
  ·rename_i hw
   rw [aYq hw];rcases h with h | ⟨h,x⟩
   ·exact anR aBW h
   ·exact (bK x).elim
  ·rename_i hw
   rw [aYi hw];exact ⟨λ _ _=>trivial,h⟩
theorem af8 (hd:ops.toList.all F0=true) (bK:¬ LetsOut Q):∀ (f:Nat) (l:Array Bool) {a:Act} {w:World},wpAny P .any ops Q f l a w→wpAnyIn (lf ro) m P .any ops Q f l a w
 | 0,l,a,w,h=>h
 | f+1,l,a,w,h=>⟨h.1,λ i hi=>wpOpIn_mono (λ a w h=>af8 hd bK f _ h) (aLW hd bK (h.2 i hi))⟩
end
theorem anA {K:Act→World→Prop}:∀ c a w,¬ ij K (.panic c) a w:=λ _ _ _ h=>h
theorem anz {K:Act→World→Prop}:¬ LetsOut (ij K):=λ ⟨_,_,h⟩=>h
theorem anx {K:Exit→Act→World→Prop}:∀ e a w,ij (K .normal) e a w→K e a w:=λ e a w h=>by cases e<;>first | exact h | exact h.elim
namespace Rd
section
variable {P:Program} {ro:Option Nat} {m n:Nat} {ops:Array Oper} {Q:Exit→Act→World→Prop} {w w0:World} {E cW:List (Nat×Value)} {id Ue:Nat} {c:Operand} {x y:Code} {i j:Int} {bY:List Nat} {v:Value}
def W (ro:Option Nat) (m:Nat) (P:Program) (n:Nat) (c:Code) (Q:Exit→Act→World→Prop) (E:List (Nat×Value)) (w:World):Prop:=∀ a,fj n E a→c.wpIn (lf ro) m P Q a w
abbrev M (n:Nat) (Q:Exit→Act→World→Prop) (E:List (Nat×Value)) (w:World):Prop:=N n (ij (Q .normal)) E w
abbrev n4 (ro:Option Nat) (m:Nat) (P:Program) (y:Code) (Q:Exit→Act→World→Prop):Exit→Act→World→Prop:=Exit.then (λ a w=>y.wpIn (lf ro) m P Q a w) Q
theorem av (h:W ro m P n x (n4 ro m P y Q) E w):W ro m P n (.seq x y) Q E w:=λ a ha=>wpIn_seq (h a ha)
theorem fu (h:M n Q E w):W ro m P n .skip Q E w:=λ a ha=>wpIn_skip (h a ha)
theorem rt (h:T n Q E w):W ro m P n .ret Q E w:=λ a ha=>wpIn_ret (h a ha)
theorem dn (h:X n Q id E w):W ro m P n (.exit id) Q E w:=λ a ha=>wpIn_exit (h a ha)
theorem bJ (h:W ro m P n x (Exit.inBlock id Q) E w):W ro m P n (.block id x) Q E w:=λ a ha=>wpIn_block (h a ha)
theorem rg (h:cg P n l.toArray (ij (Q .normal)) l E w) (hd:l.all F0=true:=by kernel_rfl):W ro m P n (.region id l.toArray false) Q E w:=λ a ha=>Go.wpIn_mono (bcF (abW l hd (h a ha) anA anz)) anx
theorem du {b:Bool} (hc:ev E c=some (.bool b)) (κ:b=true→W ro m P n x Q E w) (τ:b=false→W ro m P n y Q E w):W ro m P n (.cond c x y) Q E w :=
 λ a ha=>wpIn_cond_split (ha.ev hc) (λ h=>κ h a ha) (λ h=>τ h a ha)
theorem en (hc:ev E c=some (.bool (decide (i<j)))) (κ:i<j→W ro m P n x Q E w) (τ:¬ i<j→W ro m P n y Q E w):W ro m P n (.cond c x y) Q E w:=du hc (λ h=>κ (aY6 h)) (λ h=>τ (bak h))
theorem eU (hc:ev E c=some (.bool (i != j))) (κ:¬ i=j→W ro m P n x Q E w) (τ:i=j→W ro m P n y Q E w):W ro m P n (.cond c x y) Q E w:=du hc (λ h=>κ (by simpa using h)) (λ h=>τ (by simpa using h))
theorem aX (h:W ro m P n y Q E w):M n (n4 ro m P y Q) E w:=h
theorem ne {fn:Func} {R:Ending→World→Prop} (h:T n (bodyPost P fn R) E w):M n (bodyPost P fn R) E w:=λ a ha=>h a ha
theorem b1 (h:M n Q E w):M n (Exit.inBlock id Q) E w:=h
theorem dk (h:X n Q id E w):X n (n4 ro m P y Q) id E w:=h
theorem dj (h:M n Q E w):X n (Exit.inBlock id Q) id E w:=λ a ha=>by simp only [Exit.inBlock,bab];exact h a ha
theorem bD (h:T n Q E w):T n (n4 ro m P y Q) E w:=h
theorem eV {c:Code} (kN:Nat→List (Nat×Value)→World→Prop) (k:Nat) (cW:List (Nat×Value)) (aG:kN k cW w) (hs:Sub cW E)
  (round:∀ k E w,kN k E w→W ro m P n c (Exit.then (MX n kN k) Q) E w):W ro m P n (.loop c) Q E w:=λ a ha=>by
 intro b K9 cs aDp ag hr;have key:∀ k a w,(∃ E,kN k E w∧fj n E a)→∃ e a' w',Q e a' w'∧ArrivesIn (Machine.fenced P (lf ro)) P (lone (b.atR a (.code c:: .inLoop c::K9)) cs w) b K9 cs e a' w':=by
  intro k;induction k using Nat.strongRecOn with
  | _ k bL =>
   intro a w ⟨E,sa,ha⟩;obtain ⟨e,b2,w1,I,q4⟩:=round k E w sa a ha b (.inLoop c::K9) cs aDp ag hr;cases e with
   | normal =>
    obtain ⟨m',bF,Z5⟩:=I;obtain ⟨bb,a2,cx,ze,aav⟩:=bL m' bF b2 w1 Z5;exact ⟨bb,a2,cx,ze, .of_steps (StepsIn.trans q4 (.one (fenced_calm ag hr Z) stepR_inLoop)) aav⟩
   | exit id=>exact ⟨_,b2,w1,I, .pass (x:= .inLoop c) rfl (λ _ _=> .inl (by simp)) q4⟩
   | goto l=>exact ⟨_,b2,w1,I, .pass (x:= .inLoop c) rfl (λ _ _=> .inl (by simp)) q4⟩
   | ret=>exact ⟨_,b2,w1,I, .pass (x:= .inLoop c) rfl (λ _ _=> .inl (by simp)) q4⟩
   | panic awf=>exact ⟨_,b2,w1,I, .pass (x:= .inLoop c) rfl (λ _ _=> .inl (by simp)) q4⟩
   | outgrown=>exact ⟨_,b2,w1,I, .pass (x:= .inLoop c) rfl (λ _ _=> .inl (by simp)) q4⟩
 obtain ⟨e,a',w',I,q4⟩:=key k a w ⟨cW,aG,ha.sub hs⟩;exact ⟨e,a',w',I, .of_steps (.one (fenced_calm ag hr Z) stepR_loop) q4⟩
theorem om {kN:Nat→List (Nat×Value)→World→Prop} (k':Nat) (cW:List (Nat×Value)) (h:kN k' cW w) (hm:k'<k) (hs:Sub cW E):M n (Exit.then (MX n kN k) Q) E w :=
 λ a ha=>⟨k',hm,cW,h,ha.sub hs⟩
theorem rd (mz:List (Nat×Nat)) (bY:List Nat) (hm:P.follows .mixedOrders=true) (bg:(Region.noSelect ops && (bY.length == ops.size) && lh ops (oO mz) bY (Array.replicate ops.size false))=true)
  (h:gI P n ops (ij (Q .normal)) (oO mz) bY E w) (hd:ops.toList.all F0=true:=by kernel_rfl):W ro m P n (.region id ops true) Q E w:=λ a ha=>by
 simp only [aYl,aZf] at bg;obtain ⟨⟨hs,ah⟩,bg⟩:=bg;refine Go.wpIn_mono (wpIn_region_any hm (Q:=ij (Q .normal)) (af8 hd anz _ _ ?_)) anx;have:=Hp (P:=P) hs (Q:=ij (Q .normal)) anA bY (Array.replicate ops.size false) a w (by simp) bg (h a ha);rw [ah] at this;exact EM _ _ _ _ this _ (aYG _ w).drew
theorem af7 {l:List Value} (ah:Nat.ble l.length n=true):fj n (EN 0 l) {tmps:=l.toArray++Array.replicate (n - l.toArray.size) undef,defers:= []}:=by
 refine ⟨Z, ?_,λ t v hv=> ?_⟩
 ·have:=aZ4 ah;simp only [bcj,bc8,aZT];omega
 ·obtain ⟨j,e,ay⟩:=XY l 0 t v hv;have bF:=(aX8.1 ay).1;rw [bcE (by simp;omega)];simpa [show t=j by omega] using ay
theorem ch {fn:Func} {c:Code} {l:List Value} {R:Ending→World→Prop} (hf:P.funcs[f]? =some fn) (ag:fn.body=some c) (hn:fn.ntmps=n) (ah:Nat.ble l.length n=true)
  (h:W none m P n c (bodyPostM (lf none) m P fn R) (EN 0 l) w):Calls P f l.toArray w R:=by
 have κ:CallsIn (lf none) m P f l.toArray w R:=callsIn_of_wp_marks hf ag trivial (by rw [hn];exact h _ (af7 ah)) rfl;exact (callsIn_wide (n:=m)).1 κ
theorem av4 {fn:Func} {c:Code} {l:List Value} {R:Ending→World→Prop} (hf:P.funcs[f]? =some fn) (ag:fn.body=some c) (hn:fn.ntmps=n) (ah:Nat.ble l.length n=true)
  (h:W none m P n c (bodyPost P fn R) (EN 0 l) w):CallsIn (lf none) m P f l.toArray w R :=
 callsIn_of_wp hf ag trivial (by rw [hn];exact h _ (af7 ah)) rfl
theorem cz {fn:Func} {R:Ending→World→Prop} (h:yK P E w fn.results.toList vs) (hR:R (.returned (tV vs)) w):T n (bodyPostM (lf none) m P fn R) E w :=
 λ a ha=>by
  show LeavesInM _ _ _ _ _ _ a.defers _ _;rw [ha.d];exact ⟨_,adb h ha,hR⟩
end
end Rd
namespace p3
section
variable {P:Program} {ro:Option Nat} {m n:Nat} {ops:Array Oper} {Q:Exit→Act→World→Prop} {w w' w0:World} {E cW:List (Nat×Value)} {id:Nat} {v:Value}
variable {d:Option Nat} {ty:TypeId} {pos:String} {af:Array Edge} {g:Option (Nat×Bool)} {x y z:Operand} {t:TypeId} {rest:List Oper}
def cg (ro:Option Nat) (m:Nat) (P:Program) (n:Nat) (ops:Array Oper) (Q:Exit→Act→World→Prop) (l:List Oper) (E:List (Nat×Value)) (w:World):Prop:=∀ a,fj n E a→wpListIn (lf ro) m P ops Q l a w
theorem rg (h:cg ro m P n l.toArray Q l E w):Rd.W ro m P n (.region id l.toArray false) Q E w:=λ a ha=>bcF (h a ha)
theorem nl (h:Rd.M n Q E w):cg ro m P n ops Q [] E w:=h
theorem hW {d:Nat} (hr:c9 P E ⟨some d,op,ty,pos,af,none⟩ w v w') (hd:Nat.blt d n=true) (h:cg ro m P n ops Q rest ((d,v)::E) w'):cg ro m P n ops Q (⟨some d,op,ty,pos,af,none⟩::rest) E w:=λ a ha=>by
 have ke:=hr n a ha;unfold wpListIn;rw [aYq (by simp [Region.wanted])];refine ⟨λ _ _=>trivial, ?_⟩;have hs:(⟨some d,op,ty,pos,af,none⟩:Oper).semAt (lf ro).round a.eval=execOp a.eval ⟨some d,op,ty,pos,af,none⟩:=bbo _ _ _ (λ c e=>by
  have e:op= .defer c:=e;subst e;simp only [execOp,aYt,aYu] at ke;revert ke;generalize (resolve a.eval c ty).run P w=r;cases r<;>simp [Result.andThen])
 rw [hs,ke];exact h _ (ha.put hd v)
theorem aMl {d:Nat} {l:Nat} {xs:Array Operand} {args:List Value} (hx:ev E x=some (.func (.yield l) #[] #[])) (he:hL E xs.toList=some args) (hd:Nat.blt d n=true)
  (h:YieldAt (lf ro) (m - 1) P l args.toArray w λ e w'=>∃ v,e= .returned v∧cg ro m P n ops Q rest ((d,v)::E) w'):cg ro m P n ops Q (⟨some d, .call {callee:= .value x,args:=xs,argTypes:=ts},ty,pos,af,none⟩::rest) E w:=λ a ha=>by
 obtain ⟨fn,tmps,assign,body,aE,hR⟩:=h;unfold wpListIn;rw [aYq (by simp [Region.wanted])];refine ⟨λ _ _=>trivial, ?_⟩;have hs:(⟨some d, .call {callee:= .value x,args:=xs,argTypes:=ts},ty,pos,af,none⟩:Oper).semAt (lf ro).round a.eval=execOp a.eval ⟨some d, .call {callee:= .value x,args:=xs,argTypes:=ts},ty,pos,af,none⟩:=bbo _ _ _ (λ c e=>by cases e);have hm:xs.map a.eval=args.toArray:=by rw [← ha.hL he];apply aZK;simp
 have ke:(execOp a.eval ⟨some d, .call {callee:= .value x,args:=xs,argTypes:=ts},ty,pos,af,none⟩).run P w= .ok (.round l fn tmps assign body) w:=by
  unfold execOp;simp only [resolve,invoke,Deferred.ofValue,ha.ev hx,callFunc,aYt,aYu,aYj,hm,bba];first
   | exact aE
   | simpa using aE
 rw [hs,ke];refine ⟨λ h=>by simp [lf,Fence.wide] at h,hR.mono λ e w' he=> ?_⟩;obtain ⟨v,rfl,h⟩:=he;exact h _ (ha.put hd v)
end
end p3
def mark (D:Nat):List Deferred:= [{target:= .collected D,args:=#[]}]
def wd (ds:List Deferred) (a:Act):Act:= {a with defers:=ds}
theorem aqg (ds:List Deferred) (a:Act) (d:Option Nat) (v:Value):(wd ds a).put d v=wd ds (a.put d v):=by cases d<;>rfl
theorem ad6 (ds:List Deferred) (a:Act):(wd ds a).eval=a.eval:=by funext x;cases x<;>rfl
def B0 (w:World) (D:Nat):Prop:=w.heap[D]? =some (.deferred (some []))
theorem B0.lt {w:World} (h:B0 w D):D<w.heap.size:=(aYN.1 h).1
theorem B0.later {w w':World} (h:B0 w D) (x:Ext w w'):B0 w' D:=(x.block D h.lt).trans h
def adW (w:World) (D:Nat):World:=w.putObj D (.deferred none)
theorem B0.un {w:World} (h:B0 w D):Mod [D] w (adW w D):=by
 have:=Mod.grown (grownBy_putObj' w D (.deferred none));exact this
namespace hJ
section
variable {P:Program} {ds:List Deferred} {m n:Nat} {ops:Array Oper} {Q:Exit→Act→World→Prop} {w w' w0:World} {E cW:List (Nat×Value)} {id:Nat} {v:Value}
variable {d:Option Nat} {ty:TypeId} {pos:String} {af:Array Edge} {g:Option (Nat×Bool)} {x y z:Operand} {t:TypeId} {rest:List Oper} {c:Operand} {ft vN:Code} {i j:Int}
def W (ds:List Deferred) (m:Nat) (P:Program) (n:Nat) (c:Code) (Q:Exit→Act→World→Prop) (E:List (Nat×Value)) (w:World):Prop:=∀ a,fj n E a→c.wpIn (lf none) m P Q (wd ds a) w
def N (ds:List Deferred) (n:Nat) (Q:Exit→Act→World→Prop) (E:List (Nat×Value)) (w:World):Prop:=∀ a,fj n E a→Q .normal (wd ds a) w
def T (ds:List Deferred) (n:Nat) (Q:Exit→Act→World→Prop) (E:List (Nat×Value)) (w:World):Prop:=∀ a,fj n E a→Q .ret (wd ds a) w
def cg (ds:List Deferred) (m:Nat) (P:Program) (n:Nat) (ops:Array Oper) (Q:Exit→Act→World→Prop) (l:List Oper) (E:List (Nat×Value)) (w:World):Prop:=∀ a,fj n E a→wpListIn (lf none) m P ops Q l (wd ds a) w
theorem av (h:W ds m P n ft (Rd.n4 none m P vN Q) E w):W ds m P n (.seq ft vN) Q E w:=λ a ha=>wpIn_seq (h a ha)
theorem fu (h:N ds n Q E w):W ds m P n .skip Q E w:=λ a ha=>wpIn_skip (h a ha)
theorem rt (h:T ds n Q E w):W ds m P n .ret Q E w:=λ a ha=>wpIn_ret (h a ha)
theorem rg (h:cg ds m P n l.toArray Q l E w):W ds m P n (.region id l.toArray false) Q E w:=λ a ha=>bcF (h a ha)
theorem nl (h:N ds n Q E w):cg ds m P n ops Q [] E w:=h
theorem aX (h:W ds m P n vN Q E w):N ds n (Rd.n4 none m P vN Q) E w:=h
theorem b1 (h:N ds n Q E w):N ds n (Exit.inBlock id Q) E w:=h
theorem bD (h:T ds n Q E w):T ds n (Rd.n4 none m P vN Q) E w:=h
theorem du {b:Bool} (hc:ev E c=some (.bool b)) (κ:b=true→W ds m P n ft Q E w) (τ:b=false→W ds m P n vN Q E w):W ds m P n (.cond c ft vN) Q E w :=
 λ a ha=>wpIn_cond_split (by rw [ad6];exact ha.ev hc) (λ h=>κ h a ha) (λ h=>τ h a ha)
theorem eU (hc:ev E c=some (.bool (i != j))) (κ:¬ i=j→W ds m P n ft Q E w) (τ:i=j→W ds m P n vN Q E w):W ds m P n (.cond c ft vN) Q E w:=du hc (λ h=>κ (by simpa using h)) (λ h=>τ (by simpa using h))
theorem aGH {v:Value} (h:(execOp a.eval o).run P w= .ok (.value v) w'):∀ c,o.op≠ .defer c:=λ c e=>by
 unfold execOp at h;rw [e] at h;simp only [aYt,aYu] at h;revert h;generalize (resolve a.eval c o.type).run P w=r;cases r<;>simp [Result.andThen]
theorem hW {d:Nat} (hr:c9 P E ⟨some d,op,ty,pos,af,none⟩ w v w') (hd:Nat.blt d n=true) (h:cg ds m P n ops Q rest ((d,v)::E) w'):cg ds m P n ops Q (⟨some d,op,ty,pos,af,none⟩::rest) E w:=λ a ha=>by
 have ke:=hr n a ha;unfold wpListIn;rw [aYq (by simp [Region.wanted])];refine ⟨λ _ _=>trivial, ?_⟩;rw [ad6,bbo _ _ _ (aGH ke),ke];show wpListIn _ _ _ _ _ _ _ _;rw [aqg];exact h _ (ha.put hd v)
theorem ca {d:Nat} (hf:Enters P f) {xs:Array Operand} {args:List Value} (he:hL E xs.toList=some args) (hd:Nat.blt d n=true)
  (h:Calls P f args.toArray w λ e w'=>∃ v,e= .returned v∧cg ds m P n ops Q rest ((d,v)::E) w'):cg ds m P n ops Q (⟨some d, .call {callee:= .value (.func f),args:=xs,argTypes:=ts},ty,pos,af,none⟩::rest) E w:=λ a ha=>by
 unfold wpListIn;rw [aYq (by simp [Region.wanted])];refine ⟨λ _ _=>trivial, ?_⟩;rw [ad6,bbo _ _ _ (λ c e=>by cases e),P4 hf ha he];refine ⟨λ h=>by simp [lf,Fence.wide] at h,CallsIn.mono (agJ h) λ e w' eI=> ?_⟩;obtain ⟨v,rfl,h⟩:=eI;show wpListIn _ _ _ _ _ _ _ _;rw [aqg];exact h _ (ha.put hd v)
theorem cz {fn:Func} {R:Ending→World→Prop} (hK:B0 w D) (h:yK P E (adW w D) fn.results.toList vs) (hR:R (.returned (tV vs)) (adW w D)):T (mark D) n (bodyPostM (lf none) m P fn R) E w :=
 λ a ha=>by
  have hr:=adb (a:=a) h ha;exact ⟨by simp, .inl ⟨D,_,rfl,run_takeDeferred hK,_,hr,hR⟩⟩
end
end hJ
def Ch (b c:Nat) (W jv:World):Prop:=jv.heap[b]? =W.heap[b]? ∧jv.heap[c]? =W.heap[c]?
theorem Ch.x' {c:Nat} {X aA:World} (h:Ch b c X Y) (k:Ch b c Y aA):Ch b c X aA:=⟨k.1.trans h.1,k.2.trans h.2⟩
theorem Mod.amr {W jv:World} (h:Mod S W jv) (hS:∀ q∈S,q<W.heap.size→∃ cur e aD,W.heap[q]? =some (.cells cur e aD)):KeepsFrom B W jv :=
 ⟨h.size,λ k o _ ak bK=>by
  by_cases hm:k∈S
  ·obtain ⟨cur,e,aD,hc⟩:=hS k hm (aYN.1 ak).1;rw [hc] at ak;injection ak with ak
   subst ak;exact nomatch bK
  ·exact (h.block k (aYN.1 ak).1 hm).trans ak⟩
theorem Mod.aEI {W X:World} {c:Nat} (h:Mod S W X) (k:Mod S W Y) (ag:b<W.heap.size∧c<W.heap.size) (κ:b∉S) (τ:c∉S):Ch b c X Y :=
 ⟨(k.block b ag.1 κ).trans (h.block b ag.1 κ).symm,(k.block c ag.2 τ).trans (h.block c ag.2 τ).symm⟩
def Ao (B:Nat) (w0 w:World):Prop:=KeepsFrom B w0 w
theorem Ao.cH (B:Nat) (w:World):Ao B w w:=KeepsFrom.refl B w
theorem Ao.later {w0 w w':World} (h:Ao B w0 w) (x:Ext w w'):Ao B w0 w':=KeepsFrom.trans h ((Mod.a8 (S:= []) x).amr λ q I=>nomatch I)
theorem Ao.mod {w0 w w':World} (h:Ao B w0 w) (m:Mod S w w') (hS:∀ q∈S,∃ cur e aD,w.heap[q]? =some (.cells cur e aD)):Ao B w0 w':=KeepsFrom.trans h (m.amr λ q I _=>hS q I)
theorem J.aF.Sk {R:J α} {c:Nat} {l:List α} {w:World} (h:R.aF e by_ w B (J.ab A) A c l):∀ q∈J.ab A,∃ cur e aD,w.heap[q]? =some (.cells cur e aD):=by
 obtain ⟨_,ps,_,_,⟨_,bK⟩,_⟩:=h;rcases bK with ⟨κ,_⟩ | ⟨g,cap,cur,κ,_,τ,_⟩
 ·injection κ with κ;subst κ;intro q I;exact nomatch I
 ·injection κ with κ;subst κ;intro q I
  obtain rfl:=aYf.1 I;exact ⟨_,_,_,τ⟩
structure G' {α:Type} (B:Nat) (k7:List α→World→Prop) (pre:List α) (w:World):Prop where
 XT:AbidesFrom B k7
 at_:k7 pre w
theorem G'.later {k7:List α→World→Prop} {pre:List α} {w w':World} (h:G' B k7 pre w) (x:Ext w w'):G' B k7 pre w' :=
 ⟨h.XT,h.XT _ _ _ none h.at_ ⟨x.os,x.tape,x.output,x.size,λ k ak _=>x.block k ak⟩ λ r e=>nomatch e⟩
theorem aM.Uk {cs:List Value} {e:TypeId} {aD:Nat×Nat} {w w':World} (h:aM w b cs e aD) (k:w'.heap[b]? =w.heap[b]?):aM w' b cs e aD:=k.trans h
theorem aMm {F:Fence} {m:Nat} {P:Program} {l:Nat} {W:World} {R R':Ending→World→Prop} (h:YieldAt F m P l args W R) (hr:∀ e w,R e w→R' e w):YieldAt F m P l args W R':=by
 obtain ⟨fn,tmps,assign,body,aE,hR⟩:=h;exact ⟨fn,tmps,assign,body,aE,hR.mono hr⟩
theorem aMn {P Q:Prop} {e:Ending} (h:(e= .returned (.bool true)∧P)∨(e= .returned (.bool false)∧Q)):∃ b,e= .returned (.bool b)∧(b=true→P)∧(b=false→Q):=by
 rcases h with ⟨h,p⟩ | ⟨h,q⟩
 ·exact ⟨true,h,λ _=>p,(λ h=>nomatch h)⟩
 ·exact ⟨false,h,(λ h=>nomatch h),λ _=>q⟩
theorem azH {q:Nat} (ak:k<q):(List.finRange q).take k++ [⟨k,ak⟩]=(List.finRange q).take (k+1):=by
 rw [aYH (by simpa using ak)];simp
section
variable {P:Program} {n:Nat} {E cW:List (Nat×Value)} {w:World} {d:Option Nat} {ty:TypeId} {pos:String} {af:Array Edge} {g:Option (Nat×Bool)} {x y z u:Operand} {t:TypeId}
theorem aI3 {len:Nat} {k:IntKind} (lo:Nat) {i:Int} (aH:P.underlying t=some (.slice e)) (hs:eS P e s) (hx:ev E x=some (.slice A len cap)) (aE:ev E y=some (.int k i)) (κ:i=(lo:Int)) (τ:lo≤len):
  c9 P E ⟨d, .slice t x (some y) none none,ty,pos,af,g⟩ w (.slice (eF A cap lo s) (len - lo) (cap - lo)) w:=λ n a ha=>by
 subst κ;have lM:P.underlying t=some (.slice (P.elem t)):=by simp [Program.elem,aH]
 have nt:P.elem t=e:=by simp [Program.elem,aH]
 have au:=run_slice_l (P:=P) (w:=w) t A len cap lM k (lo:Int) (by omega) (by omega);have aU:=bay (P:=P) (w:=w) t (.slice A len cap) (some (.int k (lo:Int))) none none lM;rw [nt,hs w] at au;simp only [execOp,ha.ev hx,ha.ev aE,Option.map,aU,au,aYt,aYj,aYu,sliced,aY2,eF]
theorem aI2 {len:Nat} {k k' dN:IntKind} (lo hi n:Nat) {i j abC:Int} (aH:P.underlying t=some (.slice e)) (hs:eS P e s) (hx:ev E x=some (.slice A len cap)) (aE:ev E y=some (.int k i)) (bc:ev E z=some (.int k' j)) (hu:ev E u=some (.int dN abC)) (y_:i=(lo:Int)) (C3:j=(hi:Int)) (aaW:abC=(hi:Int)) (κ:lo≤hi) (τ:hi≤cap) (hn:n=hi - lo):
  c9 P E ⟨d, .slice t x (some y) (some z) (some u),ty,pos,af,g⟩ w (.slice (eF A hi lo s) n n) w:=λ jl a ha=>by
 subst y_;subst C3;subst aaW;subst hn;have lM:P.underlying t=some (.slice (P.elem t)):=by simp [Program.elem,aH]
 have nt:P.elem t=e:=by simp [Program.elem,aH]
 have au:=run_slice_lhm (P:=P) (w:=w) t A len cap lM k k' dN (lo:Int) (hi:Int) (hi:Int) (by omega) (by omega) (by omega) (by omega);have aU:=bay (P:=P) (w:=w) t (.slice A len cap) (some (.int k (lo:Int))) (some (.int k' (hi:Int))) (some (.int dN (hi:Int))) lM;rw [nt,hs w] at au;simp only [execOp,ha.ev hx,ha.ev aE,ha.ev bc,ha.ev hu,Option.map,aU,au,aYt,aYj,aYu,sliced,aY2,eF]
end
theorem J.aK.chunk {R:J α} {c:Nat} {l:List α} {w:World} (h:R.aK by_ w A c l) (lo hi:Nat) (κ:lo<hi) (τ:hi≤l.length):R.aK by_ w (eF A hi lo R.size) (hi - lo) ((l.drop lo).take (hi - lo)):=by
 have hs:=h.sub lo hi (by omega) τ;have hc:=h.1;have oc:=h.2.1;have e:eF A hi lo R.size=eF A c lo R.size:=by unfold eF;rw [aYi (by omega),aYi (by omega)]
 rw [e];obtain ⟨g1,g2,g3,g4,g5⟩:=hs;refine ⟨by rw [aYa];omega,by omega,g3,λ hn=> ?_,g5⟩;have:=g4 hn;omega
namespace Rd
theorem cH {P:Program} {m n:Nat} {Q:Exit→Act→World→Prop} {w w0:World} {E:List (Nat×Value)} {tt p:Nat} {ty:TypeId} {pos:String} {af:Array Edge} {id:Nat} {body:Code} {g:Operand} {gf:Nat} {lb:List Value} {enc:α→Value} {fw hQ:Nat} {S atL:List α→Prop} {afL:Nat}
  (aN:ev E g=some (.func (.func gf) #[] lb.toArray)) (hf:Enters P gf) (aDw:SeqStopsK (lf none) (m - 1) P gf lb.toArray (λ x=>#[enc x]) (Ch fw hQ) S atL afL w0) (bI:fw<w.heap.size) (er:hQ<w.heap.size) (cV:Ext w0 w) (κ:1≤m) (hp:Nat.blt p n=true) (aH:Nat.blt tt n=true)
  (kN:List α→World→Prop) (sa:∀ s W jv S,kN s W→Mod S W jv→(∀ q∈S,w.heap.size≤q∧∀ cur e aD,W.heap[q]? ≠some (.cells cur e aD))→kN s jv) (aG:kN [] w)
  (aBD:∀ (l:Nat) (pre:List α) (x:α) (jv:World),kN pre jv→pre.length<afL→W (some l) (m - 1 - 1) P n body (ownPostG w.heap.size (Ch fw hQ) kN (λ _ _ _=>False) (pre++ [x]) jv) ((tt,enc x)::(p,enc x)::E) jv)
  (aBX:∀ (D:Nat) (xs:List α) (jv:World),w.heap.size≤D→S xs→kN xs jv→B0 jv D→hJ.N (mark D) n Q E jv):
  W none m P n (.rangeFunc g #[p] (.region id #[⟨some tt, .assign (.tmp p),ty,pos,af,none⟩] false) body) Q E w:=λ a ha=>by
 have aAP:∀ {β:Type} (k7:β→World→Prop),(∀ s W jv S,k7 s W→Mod S W jv→(∀ q∈S,w.heap.size≤q∧∀ cur e aD,W.heap[q]? ≠some (.cells cur e aD))→k7 s jv)→OwnFrom w.heap.size k7:=λ k7 A1 s X Y row hs Fu hr =>
  A1 s X Y row.toList hs (Mod.grown Fu) λ q I=>by
   cases row with
   | none=>exact nomatch I
   | some r =>
    obtain rfl:=aYf.1 I;obtain ⟨bg,o,bK,hc⟩:=hr _ rfl;exact ⟨bg,λ cur e aD h=>by rw [h] at bK;injection bK with bK;subst bK;exact nomatch hc⟩
 obtain ⟨fn,aaN,OI,akb⟩:=hf;obtain ⟨uG,aBz⟩:∃ c,fn.body=some c:=by
  cases h:fn.body with
  | none=>rw [h] at akb;simp at akb
  | some c=>exact ⟨c,rfl⟩
 refine wpIn_rangeFunc_ownH (F:=lf none) Z κ (gf:=gf) (lb:=lb.toArray) (ha.ev aN) trivial (enters_of aaN OI aBz) aDw (λ h k=>h.x' k) ?_ cV (λ x=>Z) kN (λ _ _ _=>False) (aAP kN sa) (λ c s A B row hs aN hr=>hs.elim) aG
  (λ x a' _=>fj n ((tt,enc x)::(p,enc x)::E) a') (λ x a' s A B row hs aN hr=>hs) ?_ ?_ ?_ ?_
 ·intro jv l o Lq ah bZ _ _;have hm:=Mod.grown (grownBy_putObj' jv l Lq);exact ⟨hm.block fw (by have:=(aYN.1 bZ).1;omega) (by simp;omega),hm.block hQ (by have:=(aYN.1 bZ).1;omega) (by simp;omega)⟩
 ·intro l pre x jv K hi hK;have hA:fj n ((p,enc x)::E) {tmps:=(#[p].zip #[enc x]).foldl (λ t (p,v)=>t.setIfInBounds p v) a.tmps,defers:= []}:=by
   have:=ha.put hp (enc x);have e:({tmps:=(#[p].zip #[enc x]).foldl (λ t (p,v)=>t.setIfInBounds p v) a.tmps,defers:= []}:Act)=a.put (some p) (enc x):=by
    simp [Act.put,ha.d]
   rw [e];exact this
  have τ:W (some l) (m - 1 - 1) P n (.region id [(⟨some tt, .assign (.tmp p),ty,pos,af,none⟩:Oper)].toArray false) (Exit.then K (λ _ _ _=>False)) ((p,enc x)::E) jv:=by
   refine p3.rg (p3.hW (v:=enc x) (w':=jv) (ee ?_) aH (p3.nl λ a' tr=>hK a' jv (KeepsFrom.refl _ _) ⟨Z,Z⟩ hi tr));show look ((p,enc x)::E) p=_;simp [look]
  exact τ _ hA
 ·intro l pre x a' jv _ _ hi hx hlen;exact aBD l pre x jv hi hlen a' hx
 ·intro D xs jv xw hS hi hK;have:=aBX D xs jv xw hS hi hK a ha;have e:({a with defers:= {target:= .collected D,args:=#[]}::a.defers}:Act)=wd (mark D) a:=by simp [wd,mark,ha.d]
  rw [e];exact this
 ·intro D c pre jv _ _ h _;exact h.elim
end Rd
end
end Go.Proofs.YtmeeljmapailnaaGreat
