import Derived.Test.YthlpmldmhakhaaaGreatDoorStrZ
set_option linter.unusedVariables false
set_option linter.unusedSimpArgs false
set_option maxRecDepth 100000
set_option maxHeartbeats 4000000
open Go.RowKit
namespace Go.Proofs.YthlpmldmhakhaaaGreatDoor
open Tryz
abbrev aMC:=@decide_eq_false_iff_not
abbrev aM2:=@List.length_replicate
abbrev aNj:=@Bool.or_eq_false_iff
abbrev aNB:=@List.filter_cons
abbrev aNG:=@List.range_succ
abbrev aNO:=@List.mem_filter
abbrev aNS:=@Int.le_refl
abbrev aOn:=@Nat.le_of_eq
abbrev aOp:=@List.set_cons_zero
abbrev aOE:=@Bool.not_true
abbrev aOH:=@List.set_cons_succ
abbrev aOR:=@List.length_singleton
abbrev aO3:=@decide_false
abbrev aO5:=@Int.add_mul_emod_self_right
abbrev aPb:=@List.mem_of_find?_eq_some
abbrev aPe:=@decide_true
abbrev aPk:=@Bool.false_or
abbrev aPs:=@List.find?_some
abbrev aPH:=@Bool.not_false
abbrev aPS:=@Bool.or_false
abbrev aPU:=@List.countP_append
abbrev aP1:=@Int.sub_self
abbrev aP2:=@Int.emod_eq_of_lt
abbrev aP3:=@Int.add_comm
abbrev aP4:=@Bool.true_or
abbrev aP5:=@Bool.or_true
abbrev aQd:=@List.countP_cons
abbrev aQj:=@Go.Proofs.Tryz.zeroValue3
abbrev aQp:=@List.perm_append_singleton
abbrev aQs:=@List.Perm.refl
abbrev aQ2:=@Int.natCast_nonneg
abbrev aQ7:=@List.take_add_one
abbrev aQ9:=@List.getElem?_set
section
namespace cj
section
variable {α:Type} [Inhabited α] {key:α→Int} {l:List α} {i j n k:Nat} {x:α}
def swp (l:List α) (i j:Nat):List α:=(l.set i (l.getD j default)).set j (l.getD i default)
theorem lj:(swp l i j).length=l.length:=by unfold swp;rw [aMM,aMM]
theorem aas {i k:Nat} (ak:i<l.length):(l.set i x).getD k default=if k=i then x else l.getD k default:=by
 rw [aMv,aMv,aQ9];by_cases e:i=k
 ·subst e;rw [aMI rfl,aMI rfl];simp [ak]
 ·rw [aMA e,aMA (λ h=>e h.symm)]
theorem B5 (ak:i<l.length) (aw:j<l.length):(swp l i j).getD k default=if k=j then l.getD i default else if k=i then l.getD j default else l.getD k default:=by
 unfold swp;rw [aas (by rw [aMM];exact aw),aas ak]
theorem B6 (ak:i<l.length) (aw:j<l.length):(swp l i j).Perm l:=by
 have h:=Array.swap_perm (xs:=l.toArray) (i:=i) (j:=j) (by simpa using ak) (by simpa using aw);have h:=h.toList;have e:(l.toArray.swap i j (by simpa using ak) (by simpa using aw)).toList=swp l i j:=by
  unfold swp;rw [aMv,aMv,aMy ak,aMy aw];simp [Array.swap]
 rw [e] at h;simpa using h
def oQ (key:α→Int) (l:List α) (j:Nat):List α :=
 if 0<j∧key (l.getD j default)<key (l.getD ((j - 1) / 2) default) then oQ key (swp l ((j - 1) / 2) j) ((j - 1) / 2) else l
termination_by j
decreasing_by omega
def mT (key:α→Int) (n:Nat) (l:List α) (i:Nat):Nat:=if 2 * i+2<n∧key (l.getD (2 * i+2) default)<key (l.getD (2 * i+1) default) then 2 * i+2 else 2 * i+1
theorem JT:i<mT key n l i:=by unfold mT;split<;>omega
theorem T5 (h:2 * i+1<n):mT key n l i<n:=by unfold mT;split<;>omega
theorem au4:(mT key n l i - 1) / 2=i:=by unfold mT;split<;>omega
theorem aee (aj:0<k) (hn:k<n) (hp:(k - 1) / 2=i):key (l.getD (mT key n l i) default)≤key (l.getD k default):=by
 have:k=2 * i+1∨k=2 * i+2:=by omega
 unfold mT;split
 ·rename_i h
  rcases this with rfl | rfl
  ·omega
  ·exact aNS _
 ·rename_i h
  rcases this with rfl | rfl
  ·exact aNS _
  ·have:¬ key (l.getD (2 * i+2) default)<key (l.getD (2 * i+1) default):=λ dN=>h ⟨hn,dN⟩;omega
def jl (key:α→Int) (n:Nat) (l:List α) (i:Nat):List α :=
 if 2 * i+1<n∧key (l.getD (mT key n l i) default)<key (l.getD i default) then jl key n (swp l i (mT key n l i)) (mT key n l i) else l
termination_by n - i
decreasing_by rename_i h;have:=JT (key:=key) (n:=n) (l:=l) (i:=i);omega
theorem azZ:∀ (j:Nat) (l:List α),(oQ key l j).length=l.length:=by
 intro j;induction j using Nat.strongRecOn with
 | ind j bu =>
  intro l;unfold oQ;split
  ·rw [bu _ (by omega),lj]
  ·rfl
theorem az0:∀ (j:Nat) (l:List α),j<l.length→(oQ key l j).Perm l:=by
 intro j;induction j using Nat.strongRecOn with
 | ind j bu =>
  intro l ay;unfold oQ;split
  ·exact (bu _ (by omega) _ (by rw [lj];omega)).trans (B6 (by omega) ay)
  ·exact aQs _
theorem Y9 (n:Nat):∀ (m i:Nat) (l:List α),n - i≤m→(jl key n l i).length=l.length:=by
 intro m;induction m with
 | zero=>intro i l h;unfold jl;rw [aMA (by omega)]
 | succ m bu =>
  intro i l h;unfold jl;split
  ·have:=JT (key:=key) (n:=n) (l:=l) (i:=i);rw [bu _ _ (by omega),lj]
  ·rfl
theorem Y_ (n:Nat):∀ (m i:Nat) (l:List α),n - i≤m→n≤l.length→i<l.length→(jl key n l i).Perm l:=by
 intro m;induction m with
 | zero=>intro i l h _ _;unfold jl;rw [aMA (by omega)]
 | succ m bu =>
  intro i l h hn ak;unfold jl;split
  ·rename_i hc
   have:=JT (key:=key) (n:=n) (l:=l) (i:=i);have:=T5 (key:=key) (l:=l) hc.1;exact (bu _ _ (by omega) (by rw [lj];exact hn) (by rw [lj];omega)).trans (B6 ak (by omega))
  ·exact aQs _
theorem ane (n:Nat):∀ (m i:Nat) (l:List α),n - i≤m→n≤l.length→i<l.length→∀ k,n≤k→i<n→(jl key n l i).getD k default=l.getD k default:=by
 intro m;induction m with
 | zero=>intro i l h _ _ k _ _;unfold jl;rw [aMA (by omega)]
 | succ m bu =>
  intro i l h hn ak k aj ew;unfold jl;split
  ·rename_i hc
   have κ:=JT (key:=key) (n:=n) (l:=l) (i:=i);have τ:=T5 (key:=key) (l:=l) hc.1;rw [bu _ _ (by omega) (by rw [lj];exact hn) (by rw [lj];omega) k aj τ,B5 ak (by omega),aMA (by omega),aMA (by omega)]
  ·rfl
def Heap (key:α→Int) (n:Nat) (l:List α):Prop:=∀ i,0<i→i<n→key (l.getD ((i - 1) / 2) default)≤key (l.getD i default)
theorem azY (n:Nat):∀ (j:Nat) (l:List α),j<n→n≤l.length→(∀ i,0<i→i<n→i≠j→key (l.getD ((i - 1) / 2) default)≤key (l.getD i default))→
  (∀ i,0<i→i<n→(i - 1) / 2=j→0<j→key (l.getD ((j - 1) / 2) default)≤key (l.getD i default))→Heap key n (oQ key l j):=by
 intro j;induction j using Nat.strongRecOn with
 | ind j bu =>
  intro l aw hn κ τ;unfold oQ;split
  ·rename_i hc
   obtain ⟨aB,bB⟩:=hc;have aT:∀ k,(swp l ((j - 1) / 2) j).getD k default=if k=j then l.getD ((j - 1) / 2) default else if k=(j - 1) / 2 then l.getD j default else l.getD k default:=λ k=>B5 (by omega) (by omega)
   refine bu _ (by omega) _ (by omega) (by rw [lj];exact hn) (λ i jK ew dD=> ?_) (λ i jK ew hp yc=> ?_)
   ·rw [aT,aT];by_cases e:i=j
    ·subst e;rw [aMI rfl,aMA (by omega),aMI rfl];omega
    ·rw [aMA e,aMA dD];by_cases a6:(i - 1) / 2=j
     ·rw [aMI a6];exact τ i jK ew a6 aB
     ·rw [aMA a6];by_cases cM:(i - 1) / 2=(j - 1) / 2
      ·rw [aMI cM];have:=κ i jK ew e;rw [cM] at this;omega
      ·rw [aMA cM];exact κ i jK ew e
   ·rw [aT,aT];rw [aMA (by omega),aMA (by omega)];have NT:=κ ((j - 1) / 2) yc (by omega) (by omega);by_cases e:i=j
    ·rw [aMI e];exact NT
    ·rw [aMA e,aMA (by omega)];have:=κ i jK ew e;rw [hp] at this;omega
  ·rename_i hc
   intro i jK ew;by_cases e:i=j
   ·subst e;have:¬ key (l.getD i default)<key (l.getD ((i - 1) / 2) default):=λ h=>hc ⟨jK,h⟩;omega
   ·exact κ i jK ew e
theorem anc (n:Nat):∀ (m i0:Nat) (l:List α),n - i0≤m→i0<l.length→n≤l.length→(∀ i,0<i→i<n→(i - 1) / 2≠i0→key (l.getD ((i - 1) / 2) default)≤key (l.getD i default))→
  (∀ i,0<i→i<n→(i - 1) / 2=i0→0<i0→key (l.getD ((i0 - 1) / 2) default)≤key (l.getD i default))→Heap key n (jl key n l i0):=by
 intro m;induction m with
 | zero =>
  intro i0 l h _ _ κ _;unfold jl;rw [aMA (by omega)];intro i jK ew;exact κ i jK ew (by omega)
 | succ m bu =>
  intro i0 l h Jl hn κ τ;unfold jl;split
  ·rename_i hc
   obtain ⟨S5,bB⟩:=hc;have g1:=JT (key:=key) (n:=n) (l:=l) (i:=i0);have g2:=T5 (key:=key) (l:=l) S5;have g3:=au4 (key:=key) (n:=n) (l:=l) (i:=i0);have g4:=λ k aj hn hp=>aee (key:=key) (n:=n) (l:=l) (i:=i0) (k:=k) aj hn hp;generalize aw:mT key n l i0=j at *
   have aT:∀ k,(swp l i0 j).getD k default=if k=j then l.getD i0 default else if k=i0 then l.getD j default else l.getD k default:=λ k=>B5 Jl (by omega)
   refine bu _ _ (by omega) (by rw [lj];omega) (by rw [lj];exact hn) (λ i jK ew dD=> ?_) (λ i jK ew hp yc=> ?_)
   ·rw [aT,aT];rw [aMA dD];by_cases e:(i - 1) / 2=i0
    ·rw [aMI e];by_cases a6:i=j
     ·rw [aMI a6];omega
     ·rw [aMA a6,aMA (by omega)];exact g4 i jK ew e
    ·rw [aMA e];by_cases a6:i=j
     ·omega
     ·rw [aMA a6];by_cases cM:i=i0
      ·rw [aMI cM];have:=τ j (by omega) g2 g3 (by omega);rw [cM];exact this
      ·rw [aMA cM];exact κ i jK ew e
   ·rw [aT,aT,g3];rw [aMA (by omega),aMI rfl,aMA (by omega),aMA (by omega)];have:=κ i jK ew (by omega);rw [hp] at this;exact this
  ·rename_i hc
   intro i jK ew;by_cases e:(i - 1) / 2=i0
   ·have S5:2 * i0+1<n:=by omega
    have:¬ key (l.getD (mT key n l i0) default)<key (l.getD i0 default):=λ h=>hc ⟨S5,h⟩;have:=aee (key:=key) (n:=n) (l:=l) jK ew e;rw [e];omega
   ·exact κ i jK ew e
theorem Heap.min (h:Heap key n l):∀ i,i<n→key (l.getD 0 default)≤key (l.getD i default):=by
 intro i;induction i using Nat.strongRecOn with
 | ind i bu =>
  intro ak;by_cases aB:0<i
  ·exact Int.le_trans (bu ((i - 1) / 2) (by omega) (by omega)) (h i aB ak)
  ·have:i=0:=by omega
   subst this;exact aNS _
def push (key:α→Int) (l:List α) (x:α):List α:=oQ key (l++ [x]) l.length
theorem Kj:(push key l x).length=l.length+1:=by unfold push;rw [azZ,aMB];rfl
theorem afb:(push key l x).Perm (x::l):=(az0 _ _ (by rw [aMB];simp)).trans (aQp x l)
theorem XK (h:k<l.length):(l++ [x]).getD k default=l.getD k default:=by
 rw [aMv,aMv,aMZ h]
theorem axs (h:Heap key l.length l):Heap key (push key l x).length (push key l x):=by
 rw [Kj];refine azY _ _ _ (by omega) (by simp) (λ i jK ew dD=> ?_) (λ i jK ew hp aB=>by omega);rw [XK (by omega),XK (by omega)];exact h i jK (by omega)
def wU (key:α→Int) (l:List α):List α:=jl key (l.length - 1) (swp l 0 (l.length - 1)) 0
def m_ (key:α→Int) (l:List α):List α:=(wU key l).take (l.length - 1)
theorem ae5:(wU key l).length=l.length:=by unfold wU;rw [Y9 _ _ _ _ (aMO _),lj]
theorem GF:(m_ key l).length=l.length - 1:=by unfold m_;rw [aME,ae5];omega
theorem ae4 (aB:0<l.length):(wU key l).getD (l.length - 1) default=l.getD 0 default:=by
 unfold wU;by_cases κ:l.length - 1=0
 ·unfold jl;rw [aMA (by omega),B5 aB (by omega),aMI rfl]
 ·rw [ane _ _ _ _ (aMO _) (by rw [lj];omega) (by rw [lj];omega) _ (aMO _) (by omega),B5 aB (by omega),aMI rfl]
theorem ae7 (aB:0<l.length):(l.getD 0 default::m_ key l).Perm l:=by
 have κ:(wU key l).Perm l:=by
  unfold wU;exact (Y_ _ _ _ _ (aMO _) (by rw [lj];omega) (by rw [lj];exact aB)).trans (B6 aB (by omega))
 have τ:m_ key l++ [l.getD 0 default]=wU key l:=by
  have e:=ae4 (key:=key) aB;have ay:=ae5 (key:=key) (l:=l);unfold m_;rw [← e,aMv,aMy (by omega),aNx];rw [← aMW (by omega)];exact aMU (by omega)
 exact ((aQp _ _).symm.trans (by rw [τ])).trans κ
theorem ae6 (h:Heap key l.length l) (aB:0<l.length):Heap key (m_ key l).length (m_ key l):=by
 rw [GF];have hd:Heap key (l.length - 1) (wU key l):=by
  unfold wU;refine anc _ _ _ _ (aMO _) (by rw [lj];exact aB) (by rw [lj];omega) (λ i jK ew dD=> ?_) (λ i _ _ _ aB=>absurd aB (by omega));rw [B5 aB (by omega),B5 aB (by omega),aMA (by omega),aMA dD,aMA (by omega),aMA (by omega)];exact h i jK (by omega)
 intro i jK ew;have aC:∀ k,k<l.length - 1→(m_ key l).getD k default=(wU key l).getD k default:=λ k aj=>by
  unfold m_;rw [aMv,aMv,aNe,aMI aj]
 rw [aC _ (by omega),aC _ ew];exact hd i jK ew
theorem Heap.least (h:Heap key l.length l):∀ y∈l,key (l.getD 0 default)≤key y:=by
 intro y aH;obtain ⟨i,ak,rfl⟩:=aNu.1 aH;have:=h.min i ak
 rwa [show l.getD i default=l[i] by rw [aMv,aMy ak];rfl] at this
end
end cj
end
section
namespace l3
section
variable {α:Type} {cD:α→List α} {k h:α→Int} {src:α→Prop} {x y s b:α} {d o7 D:Int} {ao yb:α→Int} {Q o4:List (α×Int)} {rest:List α} {e:α×Int}
inductive l5 (cD:α→List α) (k:α→Int) (src:α→Prop):α→Int→Prop
 | start {s:α} (hs:src s):l5 cD k src s 0
 | step {x y:α} {d:Int} (hx:l5 cD k src x d) (aH:y∈cD x):l5 cD k src y (d+k y)
def pQ (cD:α→List α) (k:α→Int) (src:α→Prop) (x:α) (d:Int):Prop:=l5 cD k src x d∧∀ o7,l5 cD k src x o7→d≤o7
structure l4 (cD:α→List α) (k h:α→Int):Prop where
 Gn:∀ x,∀ y∈cD x,0<k y
 aB:∀ x,0≤h x
 aj:∀ x,∀ y∈cD x,h x≤k y+h y
theorem l5.yD (o:l4 cD k h) (r:l5 cD k src x d):0≤d:=by
 induction r with
 | start _=>exact aNS 0
 | step _ aH bu=>have:=o.Gn _ _ aH;omega
theorem pQ.uniq (κ:pQ cD k src x d) (τ:pQ cD k src x o7):d=o7:=Int.le_antisymm (κ.2 _ τ.1) (τ.2 _ κ.1)
structure Inv (cD:α→List α) (k h:α→Int) (src:α→Prop) (ao:α→Int) (Q:List (α×Int)) (cX:α) (rest:List α):Prop where
 q:∀ e∈Q,(src e.1∧e.2=0)∨∃ p,0≤ao p∧e.1∈cD p∧e.2=ao p+k e.1
 neg:∀ x,ao x<0→ao x= -1
 nC:∀ x,0≤ao x→pQ cD k src x (ao x)
 pred:∀ x,0≤ao x→(src x∧ao x=0)∨∃ p,0≤ao p∧x∈cD p∧ao x=ao p+k x
 Ke:∀ x,0≤ao x→∀ y∈cD x,0≤ao y∨(y,ao x+k y)∈Q∨(x=cX∧y∈rest)
 Ks:∀ s,src s→0≤ao s∨(s,0)∈Q
 mono:∀ x,0≤ao x→∀ e∈Q,ao x+h x≤e.2+h e.1
 ahd:rest≠ []→0≤ao cX∧(∀ y∈rest,y∈cD cX)∧∀ z,0≤ao z→ao z+h z≤ao cX+h cX
theorem Inv.afp (i:Inv cD k h src ao Q x rest) (he:e∈Q):l5 cD k src e.1 e.2:=by
 rcases i.q e he with ⟨κ,τ⟩ | ⟨p,κ,τ,aq⟩
 ·rw [τ];exact .start κ
 ·rw [aq];exact .step (i.nC p κ).1 τ
theorem Inv.front (o:l4 cD k h) (i:Inv cD k h src ao Q s []) (r:l5 cD k src x d):ao x<0→∃ e∈Q,e.2+h e.1≤d+h x:=by
 induction r with
 | start hs =>
  intro hx;rcases i.Ks _ hs with κ | κ
  ·omega
  ·exact ⟨_,κ,aNS _⟩
 | @step x y d r aH bu =>
  intro aGW;by_cases hx:ao x<0
  ·obtain ⟨e,he,hle⟩:=bu hx;have:=o.aj x y aH;exact ⟨e,he,by omega⟩
  ·rcases i.Ke x (by omega) y aH with κ | κ | ⟨_,κ⟩
   ·omega
   ·have:=(i.nC x (by omega)).2 d r;exact ⟨_,κ,by dsimp only;omega⟩
   ·simp at κ
theorem Inv.axb (i:Inv cD k h src ao Q x []) (hp:Q.Perm (e::o4)) (hd:0≤ao e.1):Inv cD k h src ao o4 x []:=by
 have hs:∀ z∈o4,z∈Q:=λ z bo=>hp.symm.subset (aMK _ bo);have I:∀ z∈Q,z=e∨z∈o4:=λ z bo=>aMN.1 (hp.subset bo);refine ⟨λ z bo=>i.q z (hs z bo),i.neg,i.nC,i.pred,λ a ha c hc=> ?_,λ s ass=> ?_,λ a ha z bo=>i.mono a ha z (hs z bo),λ hn=>absurd Z hn⟩
 ·rcases i.Ke a ha c hc with κ | κ | κ
  ·exact .inl κ
  ·rcases I _ κ with τ | τ
   ·left;rw [← τ] at hd;exact hd
   ·exact .inr (.inl τ)
  ·exact .inr (.inr κ)
 ·rcases i.Ks s ass with κ | κ
  ·exact .inl κ
  ·rcases I _ κ with τ | τ
   ·left;rw [← τ] at hd;exact hd
   ·exact .inr τ
theorem Inv.axa (o:l4 cD k h) (i:Inv cD k h src ao Q s []) (hp:Q.Perm (e::o4)) (hd:ao e.1<0) (abx:∀ z∈Q,e.2+h e.1≤z.2+h z.1) (sA:yb e.1=e.2) (dD:∀ z,z≠e.1→yb z=ao z):Inv cD k h src yb o4 e.1 (cD e.1)∧0≤e.2:=by
 have hs:∀ z∈o4,z∈Q:=λ z bo=>hp.symm.subset (aMK _ bo);have I:∀ z∈Q,z=e∨z∈o4:=λ z bo=>aMN.1 (hp.subset bo);have F7:e∈Q:=hp.symm.subset aM5;have abO:=i.afp F7;have l':=abO.yD o;have lI:∀ z,0≤ao z→yb z=ao z:=λ z bo=>dD z (λ aR=>by rw [aR] at bo;omega);have mM:pQ cD k src e.1 e.2:=⟨abO,λ o7 r=>by
  obtain ⟨z,bo,hle⟩:=i.front o r hd;have:=abx z bo
  omega⟩
 have abp:∀ a,0≤yb a→yb a+h a≤e.2+h e.1:=λ a ha=>by
  by_cases aR:a=e.1
  ·subst aR;omega
  ·rw [dD a aR] at ha ⊢;exact i.mono a ha e F7
 refine ⟨⟨λ z bo=> ?_,λ a ha=> ?_,λ a ha=> ?_,λ a ha=> ?_,λ a ha c hc=> ?_,λ a ha=> ?_,λ a ha z bo=> ?_,λ _=>⟨by omega,λ y aH=>aH,λ a ha=>by rw [sA];exact abp a ha⟩⟩,l'⟩
 ·rcases i.q z (hs z bo) with κ | ⟨p,κ,τ,aq⟩
  ·exact .inl κ
  ·exact .inr ⟨p,by rw [lI p κ];exact κ,τ,by rw [lI p κ];exact aq⟩
 ·by_cases aR:a=e.1
  ·subst aR;omega
  ·rw [dD a aR] at ha ⊢;exact i.neg a ha
 ·by_cases aR:a=e.1
  ·rw [aR,sA];exact mM
  ·rw [dD a aR] at ha ⊢;exact i.nC a ha
 ·by_cases aR:a=e.1
  ·rw [aR,sA];rcases i.q e F7 with κ | ⟨p,κ,τ,aq⟩
   ·exact .inl κ
   ·exact .inr ⟨p,by rw [lI p κ];exact κ,τ,by rw [lI p κ];exact aq⟩
  ·rw [dD a aR] at ha ⊢;rcases i.pred a ha with κ | ⟨p,κ,τ,aq⟩
   ·exact .inl κ
   ·exact .inr ⟨p,by rw [lI p κ];exact κ,τ,by rw [lI p κ];exact aq⟩
 ·by_cases aR:a=e.1
  ·exact .inr (.inr ⟨aR,by rw [← aR];exact hc⟩)
  ·rw [dD a aR] at ha ⊢;rcases i.Ke a ha c hc with κ | κ | ⟨_,κ⟩
   ·left;rw [lI c κ];exact κ
   ·rcases I _ κ with τ | τ
    ·left;have:c=e.1:=by rw [← τ]
     rw [this,sA];exact l'
    ·exact .inr (.inl τ)
   ·simp at κ
 ·rcases i.Ks a ha with κ | κ
  ·left;rw [lI a κ];exact κ
  ·rcases I _ κ with τ | τ
   ·left;have:a=e.1:=by rw [← τ]
    rw [this,sA];exact l'
   ·exact .inr τ
 ·have:=abp a ha;have:=abx z (hs z bo);omega
theorem Inv.push (o:l4 cD k h) (i:Inv cD k h src ao Q x (y::rest)) (hp:o4.Perm ((y,ao x+k y)::Q)):Inv cD k h src ao o4 x rest:=by
 have hs:∀ z∈Q,z∈o4:=λ z bo=>hp.symm.subset (aMK _ bo);have hn:(y,ao x+k y)∈o4:=hp.symm.subset aM5;have I:∀ z∈o4,z=(y,ao x+k y)∨z∈Q:=λ z bo=>aMN.1 (hp.subset bo);obtain ⟨fj,fQ,ih⟩:=i.ahd (by simp);have abY:=fQ y aM5;refine ⟨λ z bo=> ?_,i.neg,i.nC,i.pred,λ a ha c hc=> ?_,λ a ha=>(i.Ks a ha).imp id (hs _),λ a ha z bo=> ?_,λ _=>⟨fj,λ c hc=>fQ c (aMK _ hc),ih⟩⟩
 ·rcases I z bo with rfl | κ
  ·exact .inr ⟨x,fj,abY,Z⟩
  ·exact i.q z κ
 ·rcases i.Ke a ha c hc with κ | κ | ⟨κ,τ⟩
  ·exact .inl κ
  ·exact .inr (.inl (hs _ κ))
  ·rcases aMN.1 τ with aq | aq
   ·subst κ;subst aq;exact .inr (.inl hn)
   ·exact .inr (.inr ⟨κ,aq⟩)
 ·rcases I z bo with rfl | κ
  ·have:=ih a ha;have:=o.aj x y abY;dsimp only;omega
  ·exact i.mono a ha z κ
theorem Inv.skip (i:Inv cD k h src ao Q x (y::rest)) (aH:0≤ao y):Inv cD k h src ao Q x rest:=by
 obtain ⟨fj,fQ,ih⟩:=i.ahd (by simp);refine ⟨i.q,i.neg,i.nC,i.pred,λ a ha c hc=> ?_,i.Ks,i.mono,λ _=>⟨fj,λ c hc=>fQ c (aMK _ hc),ih⟩⟩;rcases i.Ke a ha c hc with κ | κ | ⟨κ,τ⟩
 ·exact .inl κ
 ·exact .inr (.inl κ)
 ·rcases aMN.1 τ with aq | aq
  ·subst aq;exact .inl aH
  ·exact .inr (.inr ⟨κ,aq⟩)
theorem Inv.start (hn:∀ x,ao x= -1) (I:∀ e∈Q,src e.1∧e.2=0) (hs:∀ s,src s→(s,0)∈Q):Inv cD k h src ao Q x [] :=
 ⟨λ e he=> .inl (I e he),λ a _=>hn a,λ a ha=>by rw [hn a] at ha;omega,λ a ha=>by rw [hn a] at ha;omega,λ a ha=>by rw [hn a] at ha;omega,λ s κ=> .inr (hs s κ),λ a ha=>by rw [hn a] at ha;omega,λ κ=>absurd rfl κ⟩
theorem Inv.all (o:l4 cD k h) (i:Inv cD k h src ao [] s []) (r:l5 cD k src x d):0≤ao x:=by
 by_cases hx:ao x<0
 ·obtain ⟨e,he,_⟩:=i.front o r hx;simp at he
 ·omega
structure Spec (cD:α→List α) (k h:α→Int) (src:α→Prop) (b:α) (ao:α→Int):Prop where
 neg:∀ x,ao x<0→ao x= -1
 nC:∀ x,0≤ao x→pQ cD k src x (ao x)∧∀ D,pQ cD k src b D→ao x+h x≤D
 known:∀ x d,pQ cD k src x d→(∀ D,pQ cD k src b D→d+h x≤D)→ao x=d
 pred:∀ x,0≤ao x→(src x∧ao x=0)∨∃ p,0≤ao p∧x∈cD p∧ao x=ao p+k x
theorem Spec.uniq (s1:Spec cD k h src b ao) (s2:Spec cD k h src b yb) (x:α):ao x=yb x:=by
 by_cases κ:0≤ao x
 ·exact (s2.known x _ (s1.nC x κ).1 (s1.nC x κ).2).symm
 ·by_cases τ:0≤yb x
  ·exact s1.known x _ (s2.nC x τ).1 (s2.nC x τ).2
  ·rw [s1.neg x (by omega),s2.neg x (by omega)]
theorem Inv.ends (o:l4 cD k h) (i:Inv cD k h src ao Q s []) (af:h b=0) (hm:0≤ao b→∀ x,0≤ao x→ao x+h x≤ao b) (he:(0≤ao b∧∀ e∈Q,ao b<e.2+h e.1)∨Q= []):Spec cD k h src b ao:=by
 refine ⟨i.neg,λ x hx=>⟨i.nC x hx,λ D mM=> ?_⟩,λ x d hd hle=> ?_,i.pred⟩
 ·by_cases κ:0≤ao b
  ·have:=hm κ x hx;rw [mM.uniq (i.nC b κ)];exact this
  ·rcases he with he | he
   ·omega
   ·subst he;exact absurd (i.all o mM.1) κ
 ·by_cases κ:ao x<0
  ·obtain ⟨e,F7,aj⟩:=i.front o hd.1 κ;rcases he with ⟨τ,aq⟩ | τ
   ·have:=hle _ (i.nC b τ);have:=aq e F7;omega
   ·subst τ;simp at F7
  ·exact (i.nC x (by omega)).uniq hd
theorem Spec.end_ (s:Spec cD k h src b ao) (af:h b=0) (hd:pQ cD k src b D):ao b=D:=s.known b D hd λ aCS κ=>by rw [af,hd.uniq κ];omega
theorem l5.ab5 (o:l4 cD k h) (r:l5 cD k src x d):∃ d,pQ cD k src x d:=by
 have:∀ n:Nat,∀ d,l5 cD k src x d→d.toNat=n→∃ d,pQ cD k src x d:=by
  intro n;induction n using Nat.strongRecOn with
  | ind n bu =>
   intro d r hn;by_cases hex:∃ o7,l5 cD k src x o7∧o7<d
   ·obtain ⟨o7,r',bB⟩:=hex;have:=r'.yD o;exact bu o7.toNat (by omega) o7 r' Z
   ·exact ⟨d,r,λ o7 r'=>by
     by_cases bB:o7<d
     ·exact absurd ⟨o7,r',bB⟩ hex
     ·omega⟩
 exact this _ d r Z
end
end l3
end
theorem Lv:dL prog ai.rep 49 98 16:=dL.jw (z:=ai.zero) (k:=2) underlying49 ai.info rfl rfl (by decide) ai.k3
def iy (n:Int):Int:=if n<0 then -1 else if 0<n then 1 else 0
def cf (n:Int):Int:=if n<0 then -n else if 0<n then n else 0
theorem iB (n:Int):0≤cf n∧(-2000≤n∧n≤2000→cf n≤2000)∧(0≤n→cf n=n)∧(n<0→cf n= -n):=by unfold cf;split<;>(try split)<;>omega
theorem GM (n:Int): -1≤iy n∧iy n≤1:=by unfold iy;split<;>(try split)<;>omega
def far (a b:ai):Int:=max (cf (b.x - a.x)) (cf (b.y - a.y))
def tT (a b:ai):Int:=min (cf (b.x - a.x)) (cf (b.y - a.y))
def oD (a b:ai) (s:Int×ai):Int×ai :=
  (if decide (far a b≤s.1+2 * tT a b) then s.1+2 * tT a b - 2 * far a b else s.1+2 * tT a b,
   ⟨if !decide (cf (b.x - a.x)<cf (b.y - a.y)) || decide (far a b≤s.1+2 * tT a b) then s.2.x+iy (b.x - a.x) else s.2.x,
    if decide (cf (b.x - a.x)<cf (b.y - a.y)) || decide (far a b≤s.1+2 * tT a b) then s.2.y+iy (b.y - a.y) else s.2.y⟩)
def dh (a b:ai):Nat→Int×ai
  | 0=>(0,a)
  | k+1=>oD a b (dh a b k)
def rH (a b:ai) (k:Nat):List ai:=(List.range (k+1)).map λ i=>(dh a b i).2
def hP (a b:ai):List ai:=rH a b (far a b).toNat
theorem OM (a b:ai) (k:Nat):rH a b (k+1)=rH a b k++ [(dh a b (k+1)).2]:=by unfold rH;rw [aNG,aM0];rfl
theorem D7 (a b:ai) (k:Nat):(rH a b k).length=k+1:=by simp [rH]
theorem ao6 (a b:ai):0≤tT a b∧tT a b≤far a b:=by
  have κ:=iB (b.x - a.x);have τ:=iB (b.y - a.y);unfold tT far;omega
theorem aef (a b:ai) (k:Nat): -far a b≤(dh a b k).1∧(dh a b k).1≤far a b:=by
  have hf:=ao6 a b;induction k with
  | zero=>show -far a b≤0∧0≤far a b;omega
  | succ k bu =>
    show -far a b≤(oD a b (dh a b k)).1∧(oD a b (dh a b k)).1≤far a b;unfold oD;simp only [aMD];split<;>omega
theorem aeg (a b:ai) (k:Nat):a.x - k≤(dh a b k).2.x∧(dh a b k).2.x≤a.x+k∧a.y - k≤(dh a b k).2.y∧(dh a b k).2.y≤a.y+k:=by
  have κ:=GM (b.x - a.x);have τ:=GM (b.y - a.y);induction k with
  | zero=>show a.x - _≤a.x∧a.x≤a.x+_∧a.y - _≤a.y∧a.y≤a.y+_;omega
  | succ k bu =>
    show a.x - _≤(oD a b (dh a b k)).2.x∧(oD a b (dh a b k)).2.x≤a.x+_∧a.y - _≤(oD a b (dh a b k)).2.y∧(oD a b (dh a b k)).2.y≤a.y+_;unfold oD;simp only;split<;>split<;>omega
theorem Ow (c:ai) (w:World) (h: -1000≤c.x∧c.x≤1000∧ -1000≤c.y∧c.y≤1000):
    Calls prog 161 #[.agg #[γ c.x,γ c.y]] w (λ e w'=>e= .returned (.bool true)∧Ext w w'):=by
  refine cx (n:=23) func161 Z Z Z ?_;refine eW Z Z λ dn bw bm fO ag=> ?_;refine aU Z<|aG<|aa (ar hz Z)<|bA Z ag aZ Z<|aa (ar hz Z)<|bA Z ag aZ Z<|aa (Uh Z fN)<|aa (ar hB Z)<|bA Z ag aZ Z<|aa (ar hB Z)<|bA Z ag aZ Z<|aa (Uh Z fN)<|aa (ava Z Z Z Z)<|aa (ble Z Z)<|vm Z<|cb Z (λ hc=>ar hz Z)<|cb Z (λ hc=>aA (gt hc Z) (ag.one aZ Z))<|cb Z (λ hc=>ar hB Z)<|cb Z (λ hc=>aA (gt hc Z) (ag.one aZ Z))<|cb Z (λ hc=>J' (gt hc Z) (gt hc Z))<|cb Z (λ hc=>k7 (gt hc Z) Z)<| ?_;refine aa (fG Z Z Z Z)<|bL Z<|c' Z Z<| ?_;exact ⟨ayc (by simp only [aMF,aMD];omega),bm⟩
theorem OV (n:Int) (w:World) (h: -2000≤n∧n≤2000):
    Calls prog 162 #[γ n] w (λ e w'=>e= .returned (.tuple #[γ (iy n),γ (cf n)])∧Ext w w'):=by
  refine cx (n:=13) func162 Z Z Z ?_;refine aG<|va Z<|aU Z<|aI<|bV<|aN Z<|fI Z Z<|aU Z<| ?_;refine fM Z (λ pb=> ?_) (λ pb=> ?_)
  · refine aN rfl<|aa (Uh rfl fN)<|va rfl<|bL rfl<|hk<|cW<|hl rfl rfl rfl<| ?_
    exact ⟨by unfold iy cf;simp only [*,aN5,aNR];try rfl,(Ext.bM w)⟩
  · refine aN rfl<|aa (iv rfl rfl)<|aU rfl<| ?_
    refine fM Z (λ aqq=> ?_) (λ aqq=> ?_)
    · refine aN rfl<|va rfl<|bL rfl<|hk<|cW<|hl rfl rfl rfl<| ?_
      exact ⟨by unfold iy cf;simp only [*,aN5,aNR];try rfl,(Ext.bM w)⟩
    · refine gb<|cm<|br<|aG<|va rfl<|bL rfl<|hl rfl rfl rfl<| ?_
      exact ⟨by unfold iy cf;simp only [*,aN5,aNR];try rfl,(Ext.bM w)⟩
theorem XJ (a b:ai) (w:World) (h: -1000≤a.x∧a.x≤1000∧ -1000≤a.y∧a.y≤1000) (τ: -1000≤b.x∧b.x≤1000∧ -1000≤b.y∧b.y≤1000):
    Calls prog 147 #[.agg #[γ a.x,γ a.y], .agg #[γ b.x,γ b.y]] w (λ e w'=>e= .returned (.tuple #[γ (far a b),γ (cf (b.x - a.x)+cf (b.y - a.y)),γ 0])∧Ext w w'):=by
  refine cx (n:=43) func147 Z Z Z ?_;refine eW Z Z λ dn bw bm fO ag=> ?_;refine jk Z Z λ fP dI bD j8 aF=> ?_;have b7:=J bm bD;refine va Z<|va Z<|aU Z<|aI<|aG<| ?_;have ag:=ag.later bD;refine aa (aA Z (ag.all b0 bs))<|de MT Z (Ow a _ (by omega)) λ iM gB=> ?_;have c1:=J b7 gB;refine aa (dH Z)<|vm Z<|jR Z Z Z<| ?_;have aF:=aF.later gB;refine aa (aA Z (aF.all b0 bs))<|jR Z Z Z<|de MT Z (Ow b _ (by omega)) λ Eh ik=> ?_;have oY:=J c1 ik;refine jR Z Z Z<|aa (dH Z)<|aa (pn Z Z)<|aJ<|hL Z<|bF<|aG<|aa (ar hz Z)<| ?_;have aF:=aF.later ik;refine bA Z aF aZ Z<|aa (ar hz Z)<| ?_;have ag:=ag.later (J gB ik);refine bA Z ag aZ Z<|aa (iH Z Z (la (by have:=iB (b.x - a.x);have:=iB (b.y - a.y);omega)))<|de MZ Z (OV (b.x - a.x) _ (by omega)) λ rL jS=> ?_;have hU:=J oY jS;refine vm Z<|b2 Z Z<|b2 Z Z<|va Z<|aU Z<|aG<|aa (ar hB Z)<| ?_;have aF:=aF.later jS;refine bA Z aF aZ Z<|aa (ar hB Z)<| ?_;have ag:=ag.later jS;refine bA Z ag aZ Z<|aa (iH Z Z (la (by have:=iB (b.x - a.x);have:=iB (b.y - a.y);omega)))<|de MZ Z (OV (b.y - a.y) _ (by omega)) λ uk il=> ?_;have ka:=J hU il;refine vm Z<|b2 Z Z<|b2 Z Z<|va Z<|aU Z<|aN Z<|vm Z<|aa (mx Z Z)<|vm Z<|vm Z<|aa (bad Z Z (la (by have:=iB (b.x - a.x);have:=iB (b.y - a.y);omega)))<|va Z<|va Z<|bL Z<|dR (.tmp Z (.tmp Z (.tmp Z .nil)))<| ?_;exact ⟨Z,ka⟩
theorem amo (a b:ai) (w:World) (h: -1000≤a.x∧a.x≤1000∧ -1000≤a.y∧a.y≤1000) (τ: -1000≤b.x∧b.x≤1000∧ -1000≤b.y∧b.y≤1000):
    Calls prog 151 #[.agg #[γ a.x,γ a.y], .agg #[γ b.x,γ b.y]] w (λ e w'=>∃ A c,e= .returned (.tuple #[.slice A (hP a b).length c,γ 0])∧ai.rep.aL 98 16 w' w.heap.size (Φ.ab A) A c (hP a b)∧Ext w w'):=by
  refine cx (n:=93) func151 Z Z Z ?_;refine eW Z Z λ dn bw bm fO ag=> ?_;have ja:=ag.lt;refine jk Z Z λ fP dI bD j8 aF=> ?_;have b7:=J bm bD;have qx:=aF.lt;refine va Z<|aU Z<|aI<|aG<| ?_;have ag:=ag.later bD;refine aa (aA Z (ag.all b0 bs))<|de MT Z (Ow a _ (by omega)) λ iM gB=> ?_;have:=gB.size;have c1:=J b7 gB;refine aa (dH Z)<|vm Z<|jR Z Z Z<| ?_;have aF:=aF.later gB;refine aa (aA Z (aF.all b0 bs))<|jR Z Z Z<|de MT Z (Ow b _ (by omega)) λ Eh ik=> ?_;have:=ik.size;have oY:=J c1 ik;refine jR Z Z Z<|aa (dH Z)<|aa (pn Z Z)<|aJ<|hL Z<|bF<|aG<|aa (ar hz Z)<| ?_;have aF:=aF.later ik;refine bA Z aF aZ Z<|aa (ar hz Z)<| ?_;have ag:=ag.later (J gB ik);refine bA Z ag aZ Z<|aa (iH Z Z fN)<|de MZ Z (OV (b.x - a.x) _ (by omega)) λ rL jS=> ?_;have:=jS.size;have hU:=J oY jS;refine vm Z<|b2 Z Z<|b2 Z Z<|va Z<|aU Z<|aG<|aa (ar hB Z)<| ?_;have aF:=aF.later jS;refine bA Z aF aZ Z<|aa (ar hB Z)<| ?_;have ag:=ag.later jS;refine bA Z ag aZ Z<|aa (iH Z Z fN)<|de MZ Z (OV (b.y - a.y) _ (by omega)) λ uk il=> ?_;have:=il.size;have ka:=J hU il;refine vm Z<|b2 Z Z<|b2 Z Z<|va Z<|aU Z<|aN Z<|vm Z<|va Z<|aU Z<|aI<|aN Z<|vm Z<|aa (iv Z Z)<|aJ<| ?_;refine fM Z (λ SD=> ?_) (λ SD=> ?_)
  · have tG:=iB (b.x - a.x)
    have nH:=iB (b.y - a.y);have hX:far a b=cf (b.y - a.y):=by unfold far;omega
    have Jt:tT a b=cf (b.x - a.x):=by unfold tT;omega
    have Jh:decide (cf (b.x - a.x)<cf (b.y - a.y))=true:=by exact aMV SD
    refine rg<|vm Z<|vm Z<|va Z<|aU Z<|aG<| ?_;have ag:=ag.later il;refine aa (aA Z (ag.all b0 bs))<|b9 (e:= 98) (cs:= [γ a.x,γ a.y]) Z (λ _=>by kernel_rfl) Z λ Ej Me kZ atJ Lh=> ?_;have ni:=J ka kZ;refine aU Z<|aG<|aU Z<|aI<|aN Z<|vm Z<|aJ<|bV<| ?_;have ag:=ag.later kZ;have auY:∀ q∈Φ.ab (a_ Me),Me≤q:=λ q I=>aOn (aMu.1 I).symm;refine gh (λ cL cw aV=>∃ k:Nat,∃ ct:Option Addr,∃ co:Nat,cw= [(2, .pointer (a_ bw)),(4, .slice none 0 0),(5,γ 0),(6,γ (iy (b.x - a.x))),(7,γ (cf (b.x - a.x))),(8,γ (iy (b.y - a.y))),(9,γ (cf (b.y - a.y))),(10,γ (cf (b.y - a.y))),(11,γ (cf (b.x - a.x))),(12, .slice ct ((rH a b k).length) co),(13,γ ((dh a b k).1)),(50,γ (cf (b.y - a.y))),(51,γ (k:Int))]∧cL=(cf (b.y - a.y)).toNat - k∧Ext w aV∧aO aV bw [γ ((dh a b k).2.x),γ ((dh a b k).2.y)] 98 (0,0)∧ai.rep.aL 98 16 aV w.heap.size (Φ.ab ct) ct co (rH a b k)∧((k:Int)≤cf (b.y - a.y))∧(∀ q∈Φ.ab ct,q=bw→False)) _ _ ⟨0,some ⟨Me,0,none⟩,1,Z,Z,ni,ag,(aO.Kg (R:=ai.rep) (by_:=16) (B:=w.heap.size) (k:= [a]) Lh [[γ a.x,γ a.y]] Z ⟨⟨Z,cH.2 (by omega),cH.2 (by omega)⟩,trivial⟩ (by simp) (by simp) (by decide) (by omega)),(by have:=iB (b.y - a.y);have:=iB (b.x - a.x);omega),(λ q I af=>by (have:=auY q I;omega))⟩ (.cons Z (.cons Z (.cons Z (.cons Z (.cons Z (.cons Z (.cons Z (.cons Z (.cons Z (.cons Z (.cons (rp Z) (eV Z Z Z)))))))))))) ?_;rintro ru Xd xc ⟨k,ct,co,rfl,rfl,jT,gL,bU,aj,oc⟩;have aJ4:=gL.lt;have af:=aef a b k;have hp:=aeg a b k;have gm:=GM (b.x - a.x);have iI:=GM (b.y - a.y);have tG:=iB (b.x - a.x);have nH:=iB (b.y - a.y);have tK:=D7 a b k;refine aG<|fI Z Z<|aJ<|aI<| ?_;refine fM Z (λ aqu=> ?_) (λ aqu=> ?_)
    · refine bF<|aI<|bV<|aN rfl<|vm rfl<|aa (zx rfl rfl fN)<|fi rfl rfl<|aU rfl<|aN rfl<|vm rfl<|aa (k7 rfl rfl)<|aU rfl<|aI<|aG<| ?_
      refine vm Z<|aJ<| ?_;refine CW Z (λ zT=> ?_) (λ zT=> ?_)
      · rw [hX] at af
        have Dg:decide (cf (b.y - a.y)≤((dh a b k).1)+(2 * (cf (b.x - a.x))))=true:=by exact aMV zT
        refine rg<|vm Z<|vm Z<|aa (zx Z Z fN)<|aa (iH Z Z fN)<|aU Z<|aI<|aN Z<|vm Z<|aa (k7 Z Z)<|vm Z<|gw Z Z<|aa (gq Z Z Z Z)<|aJ<| ?_;have I_:((decide (cf (b.y - a.y)≤cf (b.x - a.x))) || (decide (cf (b.y - a.y)≤((dh a b k).1)+(2 * (cf (b.x - a.x))))))=true:=by simp only [aNa,aMD];omega
        refine gX (by rw [← I_];rfl)<|rg<|aa (ar hz Z)<|bA Z gL aZ Z<|vm Z<|fi Z Z<|aa (ar hz Z)<|fH Z Z gL Z cr Z Z λ Pj wI gL=> ?_;have:=wI.size;have AL:=Ext.mod jT wI bE;refine aJ<|aI<|aN Z<|vm Z<|aa (iv Z Z)<|vm Z<|gw Z Z<|aa (gq Z Z Z Z)<|aJ<| ?_;have tC:((decide (cf (b.x - a.x)<cf (b.y - a.y))) || (decide (cf (b.y - a.y)≤((dh a b k).1)+(2 * (cf (b.x - a.x))))))=true:=by simp only [aNa,aMD];omega
        refine gX (by rw [← tC];rfl)<|rg<|aa (ar hB Z)<|bA Z gL aZ Z<|vm Z<|fi Z Z<|aa (ar hB Z)<|fH Z Z gL Z cr Z Z λ VB oF gL=> ?_;have:=oF.size;have Cq:=Ext.mod AL oF bE;refine aJ<|rg<|vm Z<|aa (aA Z (gL.all b0 bs))<|b9 (e:= 98) (cs:= [γ (((dh a b k).2.x)+(iy (b.x - a.x))),γ (((dh a b k).2.y)+(iy (b.y - a.y)))]) Z (λ _=>by kernel_rfl) Z λ agO aEg Cl aHY W1=> ?_;have Hf:=J Cq Cl;have axC:=W1.lt;have bU:=((bU.mod wI (cY oc)).mod oF (cY oc)).later Cl;refine ap Lv Φ.cZ bU (aO.fu (R:=ai.rep) (by_:=16) (q:=(⟨((dh a b k).2.x)+(iy (b.x - a.x)),((dh a b k).2.y)+(iy (b.y - a.y))⟩:ai)) W1 ⟨Z,⟨fZ,fZ⟩⟩ (by decide)) Z Z (by simp only [aMw,aMz];omega) (by simp only [aMw,aMz];omega) Hf.size Z λ KO aic alZ oG aj4 apS aI6=> ?_;have uL:=Ext.mod Hf oG (λ q I=>(bU.lt q I).1);refine va Z<|nl<|cm<|eR Z Z Z<| ?_;have aR:dh a b (k+1)=((((dh a b k).1)+(2 * (cf (b.x - a.x)))) - (2 * (cf (b.y - a.y))),⟨((dh a b k).2.x)+(iy (b.x - a.x)),((dh a b k).2.y)+(iy (b.y - a.y))⟩):=by
          show oD a b (dh a b k)=_;unfold oD;simp only [hX,Jt,Jh,Dg,aN5,aNR,aP5,aP4,aPS,aPk,aNm,aPe,aO3,aOE,aPH]
        have a6:=OM a b k;rw [aR] at a6;have cM:(rH a b (k+1)).length=k+2:=D7 a b (k+1);have gL:=(gL.later Cl).mod oG (λ I=>oc _ I rfl);exact lM _ _ ⟨k+1,aic,alZ,Z,Z,uL,(by rw [aR];exact gL),(by rw [a6];exact aj4),by omega,(gp apS oc)⟩ (by omega) (.cons Z (.cons Z (.cons Z (.cons Z (.cons Z (.cons Z (.cons Z (.cons Z (.cons Z (.cons (by rw [a6];rfl) (.cons (BJ Z (by rw [aR])) (eV Z Z Z))))))))))))
      · rw [hX] at af
        have Dg:decide (cf (b.y - a.y)≤((dh a b k).1)+(2 * (cf (b.x - a.x))))=false:=by exact aMY zT
        refine bF<|aI<|aN Z<|vm Z<|aa (k7 Z Z)<|vm Z<|gw Z Z<|aa (gq Z Z Z Z)<|aJ<| ?_;have aqC:((decide (cf (b.y - a.y)≤cf (b.x - a.x))) || (decide (cf (b.y - a.y)≤((dh a b k).1)+(2 * (cf (b.x - a.x))))))=false:=by simp only [aNj,aMC];omega
        refine hL (by rw [← aqC];rfl)<|bF<|aI<|aN Z<|vm Z<|aa (iv Z Z)<|vm Z<|gw Z Z<|aa (gq Z Z Z Z)<|aJ<| ?_;have zU:((decide (cf (b.x - a.x)<cf (b.y - a.y))) || (decide (cf (b.y - a.y)≤((dh a b k).1)+(2 * (cf (b.x - a.x))))))=true:=by simp only [aNa,aMD];omega
        refine gX (by rw [← zU];rfl)<|rg<|aa (ar hB Z)<|bA Z gL aZ Z<|vm Z<|fi Z Z<|aa (ar hB Z)<|fH Z Z gL Z cr Z Z λ agT BS gL=> ?_;have:=BS.size;have Lb:=Ext.mod jT BS bE;refine aJ<|rg<|vm Z<|aa (aA Z (gL.all b0 bs))<|b9 (e:= 98) (cs:= [γ ((dh a b k).2.x),γ (((dh a b k).2.y)+(iy (b.y - a.y)))]) Z (λ _=>by kernel_rfl) Z λ KR aEr uI aH9 W6=> ?_;have nn:=J Lb uI;have aKo:=W6.lt;have bU:=(bU.mod BS (cY oc)).later uI;refine ap Lv Φ.cZ bU (aO.fu (R:=ai.rep) (by_:=16) (q:=(⟨(dh a b k).2.x,((dh a b k).2.y)+(iy (b.y - a.y))⟩:ai)) W6 ⟨Z,⟨fZ,fZ⟩⟩ (by decide)) Z Z (by simp only [aMw,aMz];omega) (by simp only [aMw,aMz];omega) nn.size Z λ aMl aif al4 wK aj9 apU aJc=> ?_;have aCt:=Ext.mod nn wK (λ q I=>(bU.lt q I).1);refine va Z<|nl<|cm<|eR Z Z Z<| ?_;have aR:dh a b (k+1)=(((dh a b k).1)+(2 * (cf (b.x - a.x))),⟨(dh a b k).2.x,((dh a b k).2.y)+(iy (b.y - a.y))⟩):=by
          show oD a b (dh a b k)=_;unfold oD;simp only [hX,Jt,Jh,Dg,aN5,aNR,aP5,aP4,aPS,aPk,aNm,aPe,aO3,aOE,aPH]
        have a6:=OM a b k;rw [aR] at a6;have cM:(rH a b (k+1)).length=k+2:=D7 a b (k+1);have gL:=(gL.later uI).mod wK (λ I=>oc _ I rfl);exact lM _ _ ⟨k+1,aif,al4,Z,Z,aCt,(by rw [aR];exact gL),(by rw [a6];exact aj9),by omega,(gp apU oc)⟩ (by omega) (.cons Z (.cons Z (.cons Z (.cons Z (.cons Z (.cons Z (.cons Z (.cons Z (.cons Z (.cons (by rw [a6];rfl) (.cons (BJ Z (by rw [aR])) (eV Z Z Z))))))))))))
    · refine er<|ep<|eY<|eo<|br<|aN rfl<|va rfl<|bL rfl<|hl rfl rfl rfl<| ?_
      have nF:k=(far a b).toNat:=by omega
      subst nF;exact ⟨ct,co,Z,bU,jT⟩
  · have tG:=iB (b.x - a.x)
    have nH:=iB (b.y - a.y);have hX:far a b=cf (b.x - a.x):=by unfold far;omega
    have Jt:tT a b=cf (b.y - a.y):=by unfold tT;omega
    have Jh:decide (cf (b.x - a.x)<cf (b.y - a.y))=false:=by exact aMY SD
    refine bF<|aG<| ?_;have ag:=ag.later il;refine aa (aA Z (ag.all b0 bs))<|b9 (e:= 98) (cs:= [γ a.x,γ a.y]) Z (λ _=>by kernel_rfl) Z λ VI QX ks atB ain=> ?_;have AP:=J ka ks;refine aU Z<|aG<|aU Z<|aI<|aN Z<|vm Z<|aJ<|bV<| ?_;have ag:=ag.later ks;have auL:∀ q∈Φ.ab (a_ QX),QX≤q:=λ q I=>aOn (aMu.1 I).symm;refine gh (λ cL cw aV=>∃ k:Nat,∃ ct:Option Addr,∃ co:Nat,cw= [(2, .pointer (a_ bw)),(4, .slice none 0 0),(5,γ 0),(6,γ (iy (b.x - a.x))),(7,γ (cf (b.x - a.x))),(8,γ (iy (b.y - a.y))),(9,γ (cf (b.y - a.y))),(10,γ (cf (b.x - a.x))),(11,γ (cf (b.y - a.y))),(12, .slice ct ((rH a b k).length) co),(13,γ ((dh a b k).1)),(50,γ (cf (b.x - a.x))),(51,γ (k:Int))]∧cL=(cf (b.x - a.x)).toNat - k∧Ext w aV∧aO aV bw [γ ((dh a b k).2.x),γ ((dh a b k).2.y)] 98 (0,0)∧ai.rep.aL 98 16 aV w.heap.size (Φ.ab ct) ct co (rH a b k)∧((k:Int)≤cf (b.x - a.x))∧(∀ q∈Φ.ab ct,q=bw→False)) _ _ ⟨0,some ⟨QX,0,none⟩,1,Z,Z,AP,ag,(aO.Kg (R:=ai.rep) (by_:=16) (B:=w.heap.size) (k:= [a]) ain [[γ a.x,γ a.y]] Z ⟨⟨Z,cH.2 (by omega),cH.2 (by omega)⟩,trivial⟩ (by simp) (by simp) (by decide) (by omega)),(by have:=iB (b.y - a.y);have:=iB (b.x - a.x);omega),(λ q I af=>by (have:=auL q I;omega))⟩ (.cons Z (.cons Z (.cons Z (.cons Z (.cons Z (.cons Z (.cons Z (.cons Z (.cons Z (.cons Z (.cons (rp Z) (eV Z Z Z)))))))))))) ?_;rintro yx aCX Vs ⟨k,ct,co,rfl,rfl,EA,gL,bU,aj,CY⟩;have aJy:=gL.lt;have af:=aef a b k;have hp:=aeg a b k;have gm:=GM (b.x - a.x);have iI:=GM (b.y - a.y);have tG:=iB (b.x - a.x);have nH:=iB (b.y - a.y);have tK:=D7 a b k;refine aG<|fI Z Z<|aJ<|aI<| ?_;refine fM Z (λ aqk=> ?_) (λ aqk=> ?_)
    · refine bF<|aI<|bV<|aN rfl<|vm rfl<|aa (zx rfl rfl fN)<|fi rfl rfl<|aU rfl<|aN rfl<|vm rfl<|aa (k7 rfl rfl)<|aU rfl<|aI<|aG<| ?_
      refine vm Z<|aJ<| ?_;refine CW Z (λ eE=> ?_) (λ eE=> ?_)
      · rw [hX] at af
        have Dg:decide (cf (b.x - a.x)≤((dh a b k).1)+(2 * (cf (b.y - a.y))))=true:=by exact aMV eE
        refine rg<|vm Z<|vm Z<|aa (zx Z Z fN)<|aa (iH Z Z fN)<|aU Z<|aI<|aN Z<|vm Z<|aa (k7 Z Z)<|vm Z<|gw Z Z<|aa (gq Z Z Z Z)<|aJ<| ?_;have aql:((decide (cf (b.y - a.y)≤cf (b.x - a.x))) || (decide (cf (b.x - a.x)≤((dh a b k).1)+(2 * (cf (b.y - a.y))))))=true:=by simp only [aNa,aMD];omega
        refine gX (by rw [← aql];rfl)<|rg<|aa (ar hz Z)<|bA Z gL aZ Z<|vm Z<|fi Z Z<|aa (ar hz Z)<|fH Z Z gL Z cr Z Z λ Pf wu gL=> ?_;have:=wu.size;have AI:=Ext.mod EA wu bE;refine aJ<|aI<|aN Z<|vm Z<|aa (iv Z Z)<|vm Z<|gw Z Z<|aa (gq Z Z Z Z)<|aJ<| ?_;have aqm:((decide (cf (b.x - a.x)<cf (b.y - a.y))) || (decide (cf (b.x - a.x)≤((dh a b k).1)+(2 * (cf (b.y - a.y))))))=true:=by simp only [aNa,aMD];omega
        refine gX (by rw [← aqm];rfl)<|rg<|aa (ar hB Z)<|bA Z gL aZ Z<|vm Z<|fi Z Z<|aa (ar hB Z)<|fH Z Z gL Z cr Z Z λ aK8 T9 gL=> ?_;have:=T9.size;have aBv:=Ext.mod AI T9 bE;refine aJ<|rg<|vm Z<|aa (aA Z (gL.all b0 bs))<|b9 (e:= 98) (cs:= [γ (((dh a b k).2.x)+(iy (b.x - a.x))),γ (((dh a b k).2.y)+(iy (b.y - a.y)))]) Z (λ _=>by kernel_rfl) Z λ aLa aDT VP aHu WM=> ?_;have ahg:=J aBv VP;have aJE:=WM.lt;have bU:=((bU.mod wu (cY CY)).mod T9 (cY CY)).later VP;refine ap Lv Φ.cZ bU (aO.fu (R:=ai.rep) (by_:=16) (q:=(⟨((dh a b k).2.x)+(iy (b.x - a.x)),((dh a b k).2.y)+(iy (b.y - a.y))⟩:ai)) WM ⟨Z,⟨fZ,fZ⟩⟩ (by decide)) Z Z (by simp only [aMw,aMz];omega) (by simp only [aMw,aMz];omega) ahg.size Z λ aAh ahT alG DQ ajO apQ aIG=> ?_;have V2:=Ext.mod ahg DQ (λ q I=>(bU.lt q I).1);refine va Z<|nl<|cm<|eR Z Z Z<| ?_;have aR:dh a b (k+1)=((((dh a b k).1)+(2 * (cf (b.y - a.y)))) - (2 * (cf (b.x - a.x))),⟨((dh a b k).2.x)+(iy (b.x - a.x)),((dh a b k).2.y)+(iy (b.y - a.y))⟩):=by
          show oD a b (dh a b k)=_;unfold oD;simp only [hX,Jt,Jh,Dg,aN5,aNR,aP5,aP4,aPS,aPk,aNm,aPe,aO3,aOE,aPH]
        have a6:=OM a b k;rw [aR] at a6;have cM:(rH a b (k+1)).length=k+2:=D7 a b (k+1);have gL:=(gL.later VP).mod DQ (λ I=>CY _ I rfl);exact lM _ _ ⟨k+1,ahT,alG,Z,Z,V2,(by rw [aR];exact gL),(by rw [a6];exact ajO),by omega,(gp apQ CY)⟩ (by omega) (.cons Z (.cons Z (.cons Z (.cons Z (.cons Z (.cons Z (.cons Z (.cons Z (.cons Z (.cons (by rw [a6];rfl) (.cons (BJ Z (by rw [aR])) (eV Z Z Z))))))))))))
      · rw [hX] at af
        have Dg:decide (cf (b.x - a.x)≤((dh a b k).1)+(2 * (cf (b.y - a.y))))=false:=by exact aMY eE
        refine bF<|aI<|aN Z<|vm Z<|aa (k7 Z Z)<|vm Z<|gw Z Z<|aa (gq Z Z Z Z)<|aJ<| ?_;have aqn:((decide (cf (b.y - a.y)≤cf (b.x - a.x))) || (decide (cf (b.x - a.x)≤((dh a b k).1)+(2 * (cf (b.y - a.y))))))=true:=by simp only [aNa,aMD];omega
        refine gX (by rw [← aqn];rfl)<|rg<|aa (ar hz Z)<|bA Z gL aZ Z<|vm Z<|fi Z Z<|aa (ar hz Z)<|fH Z Z gL Z cr Z Z λ aAl yA gL=> ?_;have:=yA.size;have V6:=Ext.mod EA yA bE;refine aJ<|aI<|aN Z<|vm Z<|aa (iv Z Z)<|vm Z<|gw Z Z<|aa (gq Z Z Z Z)<|aJ<| ?_;have aqo:((decide (cf (b.x - a.x)<cf (b.y - a.y))) || (decide (cf (b.x - a.x)≤((dh a b k).1)+(2 * (cf (b.y - a.y))))))=false:=by simp only [aNj,aMC];omega
        refine hL (by rw [← aqo];rfl)<|bF<|rg<|vm Z<|aa (aA Z (gL.all b0 bs))<|b9 (e:= 98) (cs:= [γ (((dh a b k).2.x)+(iy (b.x - a.x))),γ ((dh a b k).2.y)]) Z (λ _=>by kernel_rfl) Z λ Vw aDX xk aHA WR=> ?_;have Hd:=J V6 xk;have aJJ:=WR.lt;have bU:=(bU.mod yA (cY CY)).later xk;refine ap Lv Φ.cZ bU (aO.fu (R:=ai.rep) (by_:=16) (q:=(⟨((dh a b k).2.x)+(iy (b.x - a.x)),(dh a b k).2.y⟩:ai)) WR ⟨Z,⟨fZ,fZ⟩⟩ (by decide)) Z Z (by simp only [aMw,aMz];omega) (by simp only [aMw,aMz];omega) Hd.size Z λ aAn ahW alI aei ajP apR aIJ=> ?_;have V8:=Ext.mod Hd aei (λ q I=>(bU.lt q I).1);refine va Z<|nl<|cm<|eR Z Z Z<| ?_;have aR:dh a b (k+1)=(((dh a b k).1)+(2 * (cf (b.y - a.y))),⟨((dh a b k).2.x)+(iy (b.x - a.x)),(dh a b k).2.y⟩):=by
          show oD a b (dh a b k)=_;unfold oD;simp only [hX,Jt,Jh,Dg,aN5,aNR,aP5,aP4,aPS,aPk,aNm,aPe,aO3,aOE,aPH]
        have a6:=OM a b k;rw [aR] at a6;have cM:(rH a b (k+1)).length=k+2:=D7 a b (k+1);have gL:=(gL.later xk).mod aei (λ I=>CY _ I rfl);exact lM _ _ ⟨k+1,ahW,alI,Z,Z,V8,(by rw [aR];exact gL),(by rw [a6];exact ajP),by omega,(gp apR CY)⟩ (by omega) (.cons Z (.cons Z (.cons Z (.cons Z (.cons Z (.cons Z (.cons Z (.cons Z (.cons Z (.cons (by rw [a6];rfl) (.cons (BJ Z (by rw [aR])) (eV Z Z Z))))))))))))
    · refine er<|ep<|eY<|eo<|br<|aN rfl<|va rfl<|bL rfl<|hl rfl rfl rfl<| ?_
      have nF:k=(far a b).toNat:=by omega
      subst nF;exact ⟨ct,co,Z,bU,EA⟩
section
def sb (p:Int):Int:=if p=0∨p=3 then 2 else if p=2 then 3 else 0
def th (p:Int):Int:=if p=0∨p=3 then 0 else if p=2 then 0 else if p=1 then 9 else 1
def dF (c:ai):List ai:= [⟨c.x,c.y - 1⟩,⟨c.x - 1,c.y⟩,⟨c.x+1,c.y⟩,⟨c.x,c.y+1⟩]
namespace au
section
variable {f:au} {c d x y b:ai} {l far:List Int} {v:Int}
def fg (f:au) (c:ai):Int:=if f.place c=2 then 3 else 2
def cD (f:au) (c:ai):List ai:=(dF c).filter f.ground
def at_ (f:au) (c:ai):Nat:=(c.y * f.wide+c.x).toNat
def ao (f:au) (far:List Int) (c:ai):Int:=if f.dU c then far.getD (f.at_ c) (-1) else -1
def iW (b c:ai):Int:=2 * (cf (b.x - c.x)+cf (b.y - c.y))
theorem Bq (h:f.ground c=true):f.place c≠1:=by unfold ground at h;rw [aMF] at h;simpa using h.2
theorem aau (h:f.dU c=true) (τ:f.place c≠1):f.ground c=true:=by unfold ground;rw [h];simpa using τ
theorem mR:2≤f.fg c∧f.fg c≤3:=by unfold fg;split<;>omega
theorem D2:y∈f.cD x↔y∈dF x∧f.ground y=true:=by unfold cD;rw [aNO]
theorem Ud:y∈dF x↔(y=⟨x.x,x.y - 1⟩∨y=⟨x.x - 1,x.y⟩∨y=⟨x.x+1,x.y⟩∨y=⟨x.x,x.y+1⟩):=by unfold dF;simp
theorem GN (h:y∈dF x):x∈dF y:=by
 rw [Ud] at h ⊢;obtain ⟨a,b⟩:=x;rcases h with rfl | rfl | rfl | rfl
 ·right;right;right;simp
 ·right;right;left;simp
 ·right;left;simp
 ·left;simp
theorem ayR (h:y∈dF x):y≠x:=by
 rw [Ud] at h;obtain ⟨a,b⟩:=x;rcases h with rfl | rfl | rfl | rfl<;>simp<;>omega
theorem M3 (b:ai) (h:y∈dF x):iW b x≤2+iW b y:=by
 rw [Ud] at h;obtain ⟨fj,fQ⟩:=x;have e:∀ n:Int,cf n≤1+cf (n+1)∧cf n≤1+cf (n - 1):=λ n=>by
  have κ:=iB n;have τ:=iB (n+1);have aq:=iB (n - 1);rcases (show n<0∨0≤n by omega) with hn | hn
  ·have:=κ.2.2.2 hn;rcases (show n+1<0∨0≤n+1 by omega) with hm | hm
   ·have:=τ.2.2.2 hm;have:=aq.2.2.2 (by omega);omega
   ·have:=τ.2.2.1 hm;have:=aq.2.2.2 (by omega);omega
  ·have:=κ.2.2.1 hn;have:=τ.2.2.1 (by omega);rcases (show n - 1<0∨0≤n - 1 by omega) with hm | hm
   ·have:=aq.2.2.2 hm;omega
   ·have:=aq.2.2.1 hm;omega
 unfold iW;rcases h with rfl | rfl | rfl | rfl<;>dsimp only
 ·have:=(e (b.y - fQ)).1;rw [show b.y - (fQ - 1)=b.y - fQ+1 by omega];omega
 ·have:=(e (b.x - fj)).1;rw [show b.x - (fj - 1)=b.x - fj+1 by omega];omega
 ·have:=(e (b.x - fj)).2;rw [show b.x - (fj+1)=b.x - fj - 1 by omega];omega
 ·have:=(e (b.y - fQ)).2;rw [show b.y - (fQ+1)=b.y - fQ - 1 by omega];omega
theorem ZV (b c:ai):0≤iW b c:=by have:=iB (b.x - c.x);have:=iB (b.y - c.y);unfold iW;omega
theorem RO (b:ai):iW b b=0:=by unfold iW;rw [aP1,aP1];rfl
theorem OC (f:au) (b:ai):l3.l4 f.cD f.fg (iW b):=⟨λ x y _=>by have:=f.mR (c:=y);omega,ZV b,λ x y aH=>by
 have:=M3 b (D2.1 aH).1;have:=f.mR (c:=y);omega⟩
theorem Un (f:au):l3.l4 f.cD f.fg (λ _=>0):=⟨λ x y _=>by have:=f.mR (c:=y);omega,λ _=>aNS 0,λ x y aH=>by have:=f.mR (c:=y);omega⟩
theorem XP (hf:f.a7=0) (hc:f.dU c=true) (hd:f.dU d=true) (h:f.at_ c=f.at_ d):c=d:=by
 obtain ⟨a0,cV,a2,a3,a4,a5⟩:=idx hf hc;obtain ⟨xO,qX,e_,gD,CR,Mc⟩:=idx hf hd;unfold at_ at h;have e:c.y * f.wide+c.x=d.y * f.wide+d.x:=by omega
 have aR:(c.y * f.wide+c.x) % f.wide=c.x:=by rw [aP3,aO5,aP2 a2 a3]
 have a6:(d.y * f.wide+d.x) % f.wide=d.x:=by rw [aP3,aO5,aP2 e_ gD]
 have ex:c.x=d.x:=by rw [← aR,← a6,e]
 have M5:c.y * f.wide=d.y * f.wide:=by omega
 have M5:c.y=d.y:=Int.eq_of_mul_eq_mul_right (by omega) M5;cases c;cases d;simp at ex M5;rw [ex,M5]
theorem xN (hf:f.a7=0) (hc:f.dU c=true):f.at_ c<f.places.length∧((f.at_ c:Nat):Int)=c.y * f.wide+c.x:=by
 obtain ⟨a0,cV,_⟩:=idx hf hc;unfold at_;omega
theorem FH (hc:f.dU c=true):f.ao far c=far.getD (f.at_ c) (-1):=by unfold ao;rw [aMI hc]
theorem Da (hc:f.dU c=false):f.ao far c= -1:=by unfold ao;rw [aMA (by rw [hc];decide)]
theorem R0 (h:0≤f.ao far c):f.dU c=true:=by
 cases hc:f.dU c with
 | true=>rfl
 | false=>rw [Da hc] at h;omega
theorem Nf (hf:f.a7=0) (ay:far.length=f.places.length) (hc:f.dU c=true):f.ao (far.set (f.at_ c) v) c=v:=by
 rw [FH hc,aMv,aNg (by rw [ay];exact (xN hf hc).1)];rfl
theorem Ng (hf:f.a7=0) (hc:f.dU c=true) (dD:d≠c):f.ao (far.set (f.at_ c) v) d=f.ao far d:=by
 cases hd:f.dU d with
 | false=>rw [Da hd,Da hd]
 | true=>rw [FH hd,FH hd,aMv,aMv,aNy (λ e=>dD (XP hf hd hc e.symm))]
end
end au
def und:List Int→Nat
 | []=>0
 | x::r=>(if x<0 then 1 else 0)+und r
theorem agB:∀ l:List Int,und l≤l.length
 | []=>aMO _
 | x::r=>by have:=agB r;rw [und,aMw];split<;>omega
theorem agC {v:Int} (hv:0≤v):∀ (l:List Int) (i:Nat),i<l.length→l.getD i (-1)<0→und (l.set i v)+1=und l
 | [],i,h,_=>by simp at h
 | x::r,0,_,h=>by
  have h:x<0:=h;rw [aOp,und,und,aMA (by omega),aMI h];omega
 | x::r,i+1,h,τ=>by
  have:=agC hv r i (by simpa using h) (by simpa using τ);rw [aOH,und,und];omega
theorem Vn {n:Nat}:und (List.replicate n (-1))=n:=by
 induction n with
 | zero=>rfl
 | succ n bu=>rw [aO1,und,bu];simp;omega
structure hW {β:Type} [Inhabited β] (gd:β→ai) (ar ix:β→Int) (f:au) (h:ai→Int) (src:ai→Prop) (far:List Int) (l:List β) (cX:ai) (rest:List ai):Prop where
 len:far.length=f.places.length
 inv:l3.Inv f.cD f.fg h src (f.ao far) (l.map λ n=>(gd n,ar n)) cX rest
 hp:cj.Heap ix l.length l
 all:∀ n∈l,ix n=ar n+h (gd n)∧f.ground (gd n)=true
 gO:∀ c,f.ao far c+3 * (und far:Int)≤3 * (f.places.length:Int)
 gr:∀ c,0≤f.ao far c→f.ground c=true
section
variable {β:Type} [Inhabited β] {gd:β→ai} {ar ix:β→Int} {f:au} {h:ai→Int} {src:ai→Prop} {far:List Int} {l:List β} {cX y:ai} {rest:List ai} {n:β} {j:Nat}
theorem hW.ZW (s:hW gd ar ix f h src far l cX rest) (o:l3.l4 f.cD f.fg h) (hn:n∈l):0≤ar n∧ar n+3 * (und far:Int)≤3 * (f.places.length:Int)+3:=by
 have hm:(gd n,ar n)∈l.map λ n=>(gd n,ar n):=aMT.2 ⟨n,hn,rfl⟩;have hr:=s.inv.afp hm;refine ⟨hr.yD o, ?_⟩;have hu:=agB far;have:=s.len;rcases s.inv.q _ hm with ⟨_,τ⟩ | ⟨p,κ,τ,aq⟩
 ·have τ:ar n=0:=τ;omega
 ·have aq:ar n=f.ao far p+f.fg (gd n):=aq;have:=s.gO p;have:=f.mR (c:=gd n);omega
theorem hW.aeW (aB:0<l.length):(l.map λ n=>(gd n,ar n)).Perm ((gd (l.getD 0 default),ar (l.getD 0 default))::(cj.m_ ix l).map λ n=>(gd n,ar n)):=
 ((cj.ae7 (key:=ix) aB).symm.map _)
theorem hW.least (s:hW gd ar ix f h src far l cX rest) (aB:0<l.length):∀ e∈l.map λ n=>(gd n,ar n),ar (l.getD 0 default)+h (gd (l.getD 0 default))≤e.2+h e.1:=by
 intro e he;obtain ⟨n,hn,rfl⟩:=aMT.1 he;have κ:=s.hp.least n hn;rw [(s.all n hn).1,(s.all _ (mU aB)).1] at κ;exact κ
theorem hW.sub (aB:0<l.length) (hn:n∈cj.m_ ix l):n∈l:=(cj.ae7 (key:=ix) aB).subset (aMK _ hn)
theorem hW.ayT (s:hW gd ar ix f h src far l cX []) (aB:0<l.length) (hd:0≤f.ao far (gd (l.getD 0 default))):hW gd ar ix f h src far (cj.m_ ix l) cX [] :=
 ⟨s.len,s.inv.axb (hW.aeW aB) hd,cj.ae6 s.hp aB,λ n hn=>s.all n (hW.sub aB hn),s.gO,s.gr⟩
theorem hW.new (s:hW gd ar ix f h src far l cX []) (hf:f.a7=0) (o:l3.l4 f.cD f.fg h) (aB:0<l.length) (hd:f.ao far (gd (l.getD 0 default))<0):
  hW gd ar ix f h src (far.set (f.at_ (gd (l.getD 0 default))) (ar (l.getD 0 default))) (cj.m_ ix l) (gd (l.getD 0 default)) (f.cD (gd (l.getD 0 default)))∧und (far.set (f.at_ (gd (l.getD 0 default))) (ar (l.getD 0 default)))+1=und far:=by
 have aT:=(s.all _ (mU aB (d:=default))).2;have ak:=au.jn aT;have af:=s.ZW o (mU aB (d:=default));have hu:und (far.set (f.at_ (gd (l.getD 0 default))) (ar (l.getD 0 default)))+1=und far:=agC af.1 far _ (by rw [s.len];exact (au.xN hf ak).1) (by rw [au.FH ak] at hd;exact hd);refine ⟨⟨by rw [aMM];exact s.len,(s.inv.axa o (hW.aeW aB) hd (s.least aB) (au.Nf hf s.len ak) (λ z bo=>au.Ng hf ak bo)).1,cj.ae6 s.hp aB,λ n hn=>s.all n (hW.sub aB hn),λ c=> ?_,λ c hc=> ?_⟩,hu⟩
 ·by_cases e:c=gd (l.getD 0 default)
  ·rw [e,au.Nf hf s.len ak];omega
  ·rw [au.Ng hf ak e];have:=s.gO c;omega
 ·by_cases e:c=gd (l.getD 0 default)
  ·rw [e];exact aT
  ·rw [au.Ng hf ak e] at hc;exact s.gr c hc
theorem hW.push (s:hW gd ar ix f h src far l cX (y::rest)) (o:l3.l4 f.cD f.fg h) (aT:f.ground y=true) (κ:gd n=y) (τ:ar n=f.ao far cX+f.fg y) (aq:ix n=ar n+h y):hW gd ar ix f h src far (cj.push ix l n) cX rest:=by
 refine ⟨s.len,s.inv.push o ?_,cj.axs s.hp,λ m hm=> ?_,s.gO,s.gr⟩
 ·have:=(cj.afb (key:=ix) (l:=l) (x:=n)).map λ n=>(gd n,ar n);rw [aNc,κ,τ] at this;exact this
 ·rcases aMN.1 ((cj.afb (key:=ix)).subset hm) with rfl | hm
  ·rw [κ];exact ⟨aq,aT⟩
  ·exact s.all m hm
theorem hW.pass (s:hW gd ar ix f h src far l cX (y::rest)) (aH:0≤f.ao far y):hW gd ar ix f h src far l cX rest:=⟨s.len,s.inv.skip aH,s.hp,s.all,s.gO,s.gr⟩
theorem US {f:au} {x:ai} {j:Nat} (aw:j<4):((dF x).drop j).filter f.ground=if f.ground ((dF x).getD j default) then (dF x).getD j default::((dF x).drop (j+1)).filter f.ground else ((dF x).drop (j+1)).filter f.ground:=by
 have ay:(dF x).length=4:=rfl;rw [aNs (by omega),aNB,oj (by omega)]
theorem hW.au3 (s:hW gd ar ix f h src far l cX (((dF cX).drop j).filter f.ground)) (aw:j<4) (aT:f.ground ((dF cX).getD j default)=false):hW gd ar ix f h src far l cX (((dF cX).drop (j+1)).filter f.ground):=by
 rw [US aw,aMA (by rw [aT];decide)] at s;exact s
theorem hW.au1 (s:hW gd ar ix f h src far l cX (((dF cX).drop j).filter f.ground)) (aw:j<4) (aH:0≤f.ao far ((dF cX).getD j default)) (aT:f.ground ((dF cX).getD j default)=true):hW gd ar ix f h src far l cX (((dF cX).drop (j+1)).filter f.ground):=by
 rw [US aw,aMI aT] at s;exact s.pass aH
theorem hW.au2 (s:hW gd ar ix f h src far l cX (((dF cX).drop j).filter f.ground)) (o:l3.l4 f.cD f.fg h) (aw:j<4) (aT:f.ground ((dF cX).getD j default)=true) (κ:gd n=(dF cX).getD j default) (τ:ar n=f.ao far cX+f.fg ((dF cX).getD j default)) (aq:ix n=ar n+h ((dF cX).getD j default)):
  hW gd ar ix f h src far (cj.push ix l n) cX (((dF cX).drop (j+1)).filter f.ground):=by
 rw [US aw,aMI aT] at s;exact s.push o aT κ τ aq
end
end
structure b4 where
 cell:ai
 far:Int
 all:Int
 deriving DecidableEq,Inhabited
namespace b4
def cells (a:b4):List Value:= [.int .i64 (a.cell.x), .int .i64 (a.cell.y), .int .i64 (a.far), .int .i64 (a.all)]
def ok (a:b4):Prop:=(Lit.int .i64 a.cell.x).wf=true∧(Lit.int .i64 a.cell.y).wf=true∧(Lit.int .i64 a.far).wf=true∧(Lit.int .i64 a.all).wf=true
def raw (j:Nat) (u:Value):Prop:=match j with
 | 0 | 1 | 2 | 3=>∃ n:Int,u= .int .i64 n
 | _=>True
theorem sa (a:b4):∀ (j:Nat) u,a.cells[j]? =some u→raw j u:=by
 intro j u hu
 match j,hu with
 | 0,hu | 1,hu | 2,hu | 3,hu=>exact ⟨_,(aMJ hu).symm⟩
 | j+4,hu=>exact trivial
theorem r_ (a:b4):∀ u∈a.cells,u.oneCell'=true:=by
 intro u hu;unfold cells at hu;simp only [aMN,aN7,aOM] at hu;rcases hu with rfl | rfl | rfl | rfl<;>rfl
def rep:Φ b4:=Φ.flat 4 cells ok raw (λ _=>rfl) r_ sa
def zero:Value:= .agg #[.int .i64 0, .int .i64 0, .int .i64 0, .int .i64 0]
theorem k3:∀ (j:Nat) u,zero.cells[j]? =some u→rep.raw j u:=by
 intro j u hu;have hu:(#[(.int .i64 0:Value),(.int .i64 0:Value),(.int .i64 0:Value),(.int .i64 0:Value)]:Array Value)[j]? =some u:=hu
 match j,hu with
 | 0,hu | 1,hu | 2,hu | 3,hu=>exact ⟨_,(aMJ hu).symm⟩
 | j+4,hu=>cases hu
theorem info:(prog.info? 225).map (λ i=>(i.zero,i.size,i.bytes))=some (some zero,4,32):=by kernel_rfl
def sh:hq:=(.cons (.cons (.int .i64) (.cons (.int .i64) .nil)) (.cons (.int .i64) (.cons (.int .i64) .nil)))
end b4
section
variable {c:ai}
abbrev qT (f:au) (a b:ai) (far:List Int) (l:List b4) (cX:ai) (rest:List ai):Prop:=hW b4.cell b4.far b4.all f (au.iW b) (λ c=>c=a) far l cX rest
def vu (f:au) (b:ai) (far:List Int):Prop:=0≤f.ao far b→∀ x,0≤f.ao far x→f.ao far x+au.iW b x≤f.ao far b
structure mG (f:au) (a b:ai) (far:List Int):Prop where
 len:far.length=f.places.length
 spec:l3.Spec f.cD f.fg (au.iW b) (λ c=>c=a) b (f.ao far)
 gO:∀ c,f.ao far c≤3 * (f.places.length:Int)
 gr:∀ c,0≤f.ao far c→f.ground c=true
section
variable {f:au} {a b cX:ai} {far:List Int} {l:List b4} {bH:b4} {rest:List ai}
theorem az8 (s:qT f a b far l cX []) (hf:f.a7=0) (aB:0<l.length) (hx:l.getD 0 default=bH) (hd:f.ao far bH.cell<0) (hv:vu f b far) (hc:f.ao far b<0∨bH.all≤f.ao far b):vu f b (far.set (f.at_ bH.cell) bH.far):=by
 have hm:bH∈l:=by rw [← hx];exact mU aB
 obtain ⟨ha,aT⟩:=s.all bH hm;have ak:=au.jn aT;have κ:=au.Nf (v:=bH.far) hf s.len ak;have τ:∀ z,z≠bH.cell→f.ao (far.set (f.at_ bH.cell) bH.far) z=f.ao far z:=λ z bo=>au.Ng hf ak bo;have aby:=λ z bo=>s.inv.mono z bo (bH.cell,bH.far) (aMT.2 ⟨bH,hm,rfl⟩);dsimp only at aby;intro af z bo;by_cases e:b=bH.cell
 ·have aoZ:f.ao (far.set (f.at_ bH.cell) bH.far) b=bH.far:=by rw [e];exact κ
  rw [aoZ];have e0:au.iW b bH.cell=0:=by rw [← e];exact au.RO b
  by_cases IF:z=bH.cell
  ·rw [IF,κ];omega
  ·rw [τ z IF] at bo ⊢;have:=aby z bo;omega
 ·rw [τ b e] at af ⊢;by_cases IF:z=bH.cell
  ·rw [IF,κ];omega
  ·rw [τ z IF] at bo ⊢;exact hv af z bo
theorem aeV (s:qT f a b far l cX []) (hv:vu f b far) (he:(0≤f.ao far b∧∀ e∈l.map λ n=>(n.cell,n.far),f.ao far b<e.2+au.iW b e.1)∨(l.map λ n=>(n.cell,n.far))= []):mG f a b far :=
 ⟨s.len,s.inv.ends (au.OC f b) (au.RO b) hv he,λ c=>by have:=s.gO c;omega,s.gr⟩
theorem aw1 (s:qT f a b far l cX []) (hv:vu f b far) (h:l.length=0):mG f a b far:=aeV s hv (.inr (by rw [aM3 h];rfl))
theorem aw0 (s:qT f a b far l cX []) (hv:vu f b far) (aB:0<l.length) (af:0≤f.ao far b) (h:f.ao far b<(l.getD 0 default).all):mG f a b far :=
 aeV s hv (.inl ⟨af,λ e he=>by
  have κ:=s.least aB e he;rw [← (s.all _ (mU aB)).1] at κ;omega⟩)
theorem qT.node (s:qT f a b far l cX rest) (hf:f.a7=0) (af:f.dU b=true) (hn:bH∈l):0≤bH.cell.x∧bH.cell.x<f.wide∧0≤bH.cell.y∧bH.cell.y<f.high∧0≤bH.far∧bH.far≤4803∧0≤bH.all∧bH.all≤5000∧bH.ok:=by
 obtain ⟨ha,aT⟩:=s.all bH hn;obtain ⟨_,_,i1,i2,i3,i4⟩:=au.idx hf (au.jn aT);obtain ⟨_,_,aGX,TP,aGY,aGZ⟩:=au.idx hf af;obtain ⟨g1,g2,g3,g4,g5,g6⟩:=au.g_ hf;obtain ⟨κ,τ⟩:=s.ZW (au.OC f b) hn;have ay:=au.km hf;have he:0≤au.iW b bH.cell∧au.iW b bH.cell≤160:=by
  refine ⟨au.ZV _ _, ?_⟩;unfold au.iW;have cV:=iB (b.x - bH.cell.x);have a2:=iB (b.y - bH.cell.y);rcases (show b.x - bH.cell.x<0∨0≤b.x - bH.cell.x by omega) with h | h
  ·have:=cV.2.2.2 h;rcases (show b.y - bH.cell.y<0∨0≤b.y - bH.cell.y by omega) with cp | cp
   ·have:=a2.2.2.2 cp;omega
   ·have:=a2.2.2.1 cp;omega
  ·have:=cV.2.2.1 h;rcases (show b.y - bH.cell.y<0∨0≤b.y - bH.cell.y by omega) with cp | cp
   ·have:=a2.2.2.2 cp;omega
   ·have:=a2.2.2.1 cp;omega
 refine ⟨i1,i2,i3,i4,κ,by omega,by omega,by omega,cH.2 (by omega),cH.2 (by omega),cH.2 (by omega),cH.2 (by omega)⟩
theorem zL (hf:f.a7=0) (ay:far.length=f.places.length) (hc:f.dU c=true):far[(c.y * f.wide+c.x).toNat]? =some (f.ao far c):=by
 rw [au.FH hc];exact cl (u:= -1) (show f.at_ c<far.length by rw [ay];exact (au.xN hf hc).1)
theorem iY (hf:f.a7=0) (ay:far.length=f.places.length) (hc:f.dU c=true):(c.y * f.wide+c.x).toNat<far.length∧0≤c.y * f.wide+c.x∧c.y * f.wide+c.x≤1600:=by
 have κ:=au.xN hf hc;obtain ⟨a0,cV,_⟩:=au.idx hf hc;have:=au.km hf;unfold au.at_ at κ;omega
theorem XQ (p q:Bool):p=false∨(p=true∧q=true)∨(p=true∧q=false):=by cases p<;>cases q<;>simp
end
end
section
section
variable {f:au} {a b c:ai} {far M6:List Int} {ao:ai→Int}
noncomputable def cE (f:au) (a b:ai):ai→Int :=
 @dite _ (∃ far,mG f a b far) (Classical.propDecidable _) (λ h=>f.ao h.choose) λ _=>λ _=> -1
theorem mG.C' (h:mG f a b far):f.ao far=cE f a b:=by
 have hex:∃ far,mG f a b far:=⟨far,h⟩;unfold cE;rw [dif_pos hex]
 funext x
 exact h.spec.uniq hex.choose_spec.spec x
theorem mG.get (h:mG f a b far) (hf:f.a7=0) {c:ai} (hc:f.dU c=true):far[(c.y * f.wide+c.x).toNat]? =some (cE f a b c):=by rw [← h.C'];exact zL hf h.len hc
theorem axt {β:Type} [Inhabited β] {key:β→Int} {x:β}:cj.push key [] x= [x]:=by
 unfold cj.push cj.oQ;rw [aMA (by simp)];rfl
theorem Nd {n:Nat}:f.ao (List.replicate n (-1)) c= -1:=by
 unfold au.ao;split
 ·rw [aMv,aN3];split<;>rfl
 ·rfl
theorem qT.start (hf:f.a7=0) (ha:f.ground a=true) (cX:ai):qT f a b (List.replicate f.places.length (-1)) (cj.push b4.all [] ⟨a,0,0+au.iW b a⟩) cX []:=by
 rw [axt];refine ⟨aM2,l3.Inv.start (λ x=>Nd) (λ e he=> ?_) (λ s hs=> ?_),λ i aB κ=>by simp at κ;omega,λ n hn=> ?_,λ c=> ?_,λ c hc=>by rw [Nd] at hc;omega⟩
 ·rw [aNc,aNP,aMu] at he;subst he;exact ⟨Z,Z⟩
 ·subst hs;exact aM5
 ·rw [aMu.1 hn];exact ⟨Z,ha⟩
 ·rw [Nd,Vn];omega
theorem vu.start:vu f b (List.replicate f.places.length (-1)):=λ h=>by rw [Nd] at h;omega
def kG (f:au) (ao:ai→Int) (c:ai):ai:=((dF c).find? λ n=>f.ground n && decide (0≤ao n) && decide (ao n+f.fg c=ao c)).getD c
def vA (f:au) (ao:ai→Int) (a:ai):Nat→ai→List ai
 | 0,c=> [c]
 | n+1,c=>if c=a then [c] else c::vA f ao a n (kG f ao c)
structure nu (f:au) (a:ai) (ao:ai→Int):Prop where
 zero:ao a=0
 pos:∀ c,0≤ao c→c≠a→∃ p,0≤ao p∧c∈f.cD p∧ao c=ao p+f.fg c
 gr:∀ c,0≤ao c→f.ground c=true
theorem nu.prev (h:nu f a ao) (hc:0≤ao c) (dD:c≠a):kG f ao c∈dF c∧f.ground (kG f ao c)=true∧0≤ao (kG f ao c)∧ao (kG f ao c)+f.fg c=ao c:=by
 obtain ⟨p,κ,τ,aq⟩:=h.pos c hc dD;have hp:p∈dF c:=au.GN (au.D2.1 τ).1;have NT:(f.ground p && decide (0≤ao p) && decide (ao p+f.fg c=ao c))=true:=by
  rw [h.gr p κ,aMV κ,aMV aq.symm];rfl
 unfold kG;cases hf:(dF c).find? λ n=>f.ground n && decide (0≤ao n) && decide (ao n+f.fg c=ao c) with
 | none=>exact absurd NT (aNQ.1 hf p hp)
 | some q =>
  have I:=aPs hf;simp only [aMF,aMD] at I;exact ⟨aPb hf,I.1.1,I.1.2,I.2⟩
theorem nu.fuel (h:nu f a ao):∀ (n:Nat) (c:ai),0≤ao c→(ao c).toNat≤n→vA f ao a n c=vA f ao a (ao c).toNat c:=by
 intro n;induction n using Nat.strongRecOn with
 | ind n bu =>
  intro c hc hn;by_cases dD:c=a
  ·subst dD;have:(ao c).toNat=0:=by rw [h.zero];rfl
   rw [this];cases n with
   | zero=>rfl
   | succ n=>unfold vA;rw [aMI rfl]
  ·obtain ⟨mW,mX,mm,yE⟩:=h.prev hc dD;have aj:=f.mR (c:=c);obtain ⟨m,hm⟩:∃ m,(ao c).toNat=m+1:=⟨(ao c).toNat - 1,by omega⟩;obtain ⟨mV,NP⟩:∃ mV,n=mV+1:=⟨n - 1,by omega⟩;subst NP;rw [hm,vA,vA,aMA dD,aMA dD,bu mV (by omega) _ mm (by omega),bu m (by omega) _ mm (by omega)]
def eX (f:au) (ao:ai→Int) (a c:ai):List ai:=vA f ao a (ao c).toNat c
theorem Av (h:nu f a ao):eX f ao a a= [a]:=by unfold eX;rw [h.zero];rfl
theorem Aw (h:nu f a ao) (hc:0≤ao c) (dD:c≠a):eX f ao a c=c::eX f ao a (kG f ao c):=by
 obtain ⟨mW,mX,mm,yE⟩:=h.prev hc dD;have aj:=f.mR (c:=c);unfold eX;obtain ⟨m,hm⟩:∃ m,(ao c).toNat=m+1:=⟨(ao c).toNat - 1,by omega⟩;rw [hm,vA,aMA dD,h.fuel m _ mm (by omega)]
theorem nu.of (h:mG f a b far) (af:0≤f.ao far b):nu f a (f.ao far):=by
 have bo:0≤f.ao far a→f.ao far a=0:=λ aB=>by
  have:=(h.spec.nC a aB).1.2 0 (.start rfl);omega
 have key:∀ n:Nat,∀ c,0≤f.ao far c→(f.ao far c).toNat=n→0≤f.ao far a:=by
  intro n;induction n using Nat.strongRecOn with
  | ind n bu =>
   intro c hc hn;rcases h.spec.pred c hc with ⟨κ,_⟩ | ⟨p,κ,τ,aq⟩
   ·subst κ;exact hc
   ·have:=f.mR (c:=c);exact bu (f.ao far p).toNat (by omega) p κ Z
 have ha:=key _ b af rfl;refine ⟨bo ha,λ c hc dD=> ?_,h.gr⟩;rcases h.spec.pred c hc with ⟨κ,_⟩ | κ
 ·exact absurd κ dD
 ·exact κ
theorem nu.aeL (h:mG f a b far) (af:0≤cE f a b b):nu f a (cE f a b):=by rw [← h.C'] at af ⊢;exact nu.of h af
theorem mG.X2 (h:mG f a b far) (c:ai):cE f a b c≤3 * (f.places.length:Int):=by rw [← h.C'];exact h.gO c
noncomputable def eH (f:au) (a b:ai):Int:=if f.cG a≠0 then f.cG a else if f.cG b≠0 then f.cG b else if f.place a=1∨f.place b=1 then 9 else if cE f a b b<0 then 6 else 0
noncomputable def iw (f:au) (a b:ai):Int:=if eH f a b=0 then cE f a b b else 0
noncomputable def cQ (f:au) (a b:ai):List ai:=if eH f a b=0 then (eX f (cE f a b) a b).reverse else []
theorem apf (h:f.cG a≠0):eH f a b=f.cG a:=by unfold eH;rw [aMI h]
theorem apg (h:f.cG a=0) (τ:f.cG b≠0):eH f a b=f.cG b:=by unfold eH;rw [aMA (by rw [h];simp),aMI τ]
theorem Ma (h:f.cG a=0):f.a7=0∧f.dU a=true:=by
 have hc:f.a7=0:=by
  by_cases hc:f.a7=0
  ·exact hc
  ·rw [(au.Mb hc).1] at h;exact h
 exact ⟨hc,akD hc h⟩
where
 akD {f:au} {c:ai} (h:f.a7=0) (he:f.cG c=0):f.dU c=true:=by
  cases ak:f.dU c with
  | true=>rfl
  | false=>rw [(au.Ia h ak).1] at he;omega
theorem apk (h:f.cG a=0) (τ:f.cG b=0) (aq:f.place a=1∨f.place b=1):eH f a b=9:=by unfold eH;rw [aMA (by rw [h];simp),aMA (by rw [τ];simp),aMI aq]
theorem apj (hf:f.a7=0) (ha:f.ground a=true) (af:f.ground b=true) (h:cE f a b b<0):eH f a b=6:=by
 unfold eH;rw [aMA (by rw [(au.k6 hf (au.jn ha)).1];simp),aMA (by rw [(au.k6 hf (au.jn af)).1];simp),aMA (by rintro (κ | κ);exact au.Bq ha κ;exact au.Bq af κ),aMI h]
theorem M8 (hf:f.a7=0) (ha:f.ground a=true) (af:f.ground b=true) (h:0≤cE f a b b):eH f a b=0:=by
 unfold eH;rw [aMA (by rw [(au.k6 hf (au.jn ha)).1];simp),aMA (by rw [(au.k6 hf (au.jn af)).1];simp),aMA (by rintro (κ | κ);exact au.Bq ha κ;exact au.Bq af κ),aMA (by omega)]
theorem RR (f:au) (a b:ai):(f.cG a≠0∧eH f a b=f.cG a)∨(f.cG a=0∧f.cG b≠0∧eH f a b=f.cG b)∨(f.cG a=0∧f.cG b=0∧(f.place a=1∨f.place b=1)∧eH f a b=9)∨(f.a7=0∧f.ground a=true∧f.ground b=true∧((cE f a b b<0∧eH f a b=6)∨(0≤cE f a b b∧eH f a b=0))):=by
 by_cases κ:f.cG a=0
 ·by_cases τ:f.cG b=0
  ·obtain ⟨hc,JE⟩:=Ma κ;obtain ⟨_,TK⟩:=Ma τ;by_cases aq:f.place a=1∨f.place b=1
   ·exact .inr (.inr (.inl ⟨κ,τ,aq,apk κ τ aq⟩))
   ·have ga:=au.aau JE (λ h=>aq (.inl h));have tx:=au.aau TK (λ h=>aq (.inr h));refine .inr (.inr (.inr ⟨hc,ga,tx, ?_⟩));by_cases bb:cE f a b b<0
    ·exact .inl ⟨bb,apj hc ga tx bb⟩
    ·exact .inr ⟨by omega,M8 hc ga tx (by omega)⟩
  ·exact .inr (.inl ⟨κ,τ,apg κ τ⟩)
 ·exact .inl ⟨κ,apf κ⟩
end
end
structure dT where
 id:Int
 bg:ai
 deriving DecidableEq,Inhabited
namespace dT
def cells (a:dT):List Value:= [.int .i64 (a.id), .int .i64 (a.bg.x), .int .i64 (a.bg.y)]
def ok (a:dT):Prop:=(Lit.int .i64 a.id).wf=true∧(Lit.int .i64 a.bg.x).wf=true∧(Lit.int .i64 a.bg.y).wf=true
def raw (j:Nat) (u:Value):Prop:=match j with
 | 0 | 1 | 2=>∃ n:Int,u= .int .i64 n
 | _=>True
theorem sa (a:dT):∀ (j:Nat) u,a.cells[j]? =some u→raw j u:=by
 intro j u hu
 match j,hu with
 | 0,hu | 1,hu | 2,hu=>exact ⟨_,(aMJ hu).symm⟩
 | j+3,hu=>exact trivial
theorem r_ (a:dT):∀ u∈a.cells,u.oneCell'=true:=by
 intro u hu;unfold cells at hu;simp only [aMN,aN7,aOM] at hu;rcases hu with rfl | rfl | rfl<;>rfl
def rep:Φ dT:=Φ.flat 3 cells ok raw (λ _=>rfl) r_ sa
def zero:Value:= .agg #[.int .i64 0, .int .i64 0, .int .i64 0]
theorem k3:∀ (j:Nat) u,zero.cells[j]? =some u→rep.raw j u:=by
 intro j u hu;have hu:(#[(.int .i64 0:Value),(.int .i64 0:Value),(.int .i64 0:Value)]:Array Value)[j]? =some u:=hu
 match j,hu with
 | 0,hu | 1,hu | 2,hu=>exact ⟨_,(aMJ hu).symm⟩
 | j+3,hu=>cases hu
theorem info:(prog.info? 212).map (λ i=>(i.zero,i.size,i.bytes))=some (some zero,3,24):=by kernel_rfl
def sh:hq:=(.cons (.int .i64) (.cons (.cons (.int .i64) (.cons (.int .i64) .nil)) .nil))
end dT
theorem aa4 {w:World} {cs:List Value} {a:dT} (h:dT.rep.has w cs a):cs=a.cells:=aOY (show cs=a.cells∧a.ok from h)
section
open Go.RowKit Go.Maps
namespace ai
def key (c:ai):Value:= .agg #[.int .i64 c.x, .int .i64 c.y]
theorem laid:laidOutB prog=true:=by kernel_rfl
theorem atv (x y:Int):(Value.agg #[.int .i64 x, .int .i64 y]).formed prog 98 =true:=by kernel_rfl
theorem aty:prog.keyType 98 =true:=by kernel_rfl
theorem atx:∃ n,prog.types.size+1=n+2:=by
 have:1≤prog.types.size:=by decide +kernel
 exact ⟨prog.types.size - 1,by omega⟩
theorem atu:prog.cellsOf 98 =2∧prog.cellsOf 3 =1:=by
 constructor<;>kernel_rfl
theorem atw (c:ai) (h:c.ok):∃ l,keyOf prog 98 (key c)=some l:=by
 obtain ⟨hx,aH⟩:=h;obtain ⟨n,hn⟩:=atx;unfold key keyOf;have hu:=underlying98;rw [hu];simp only [aty,atv,Bool.and_self,aN5,hn];have κ:prog.keyLits (n+2) 98 [.int .i64 c.x, .int .i64 c.y]=some [.int .i64 c.x, .int .i64 c.y]:=by
  simp [Program.keyLits,hu,underlying3,atu,hx,aH]
 exact ⟨.string (keyBytes [.int .i64 c.x, .int .i64 c.y]),by
  have e:(Value.agg #[.int .i64 c.x, .int .i64 c.y]).cells.toList= [.int .i64 c.x, .int .i64 c.y]:=rfl;rw [e,κ];rfl⟩
theorem yt:Qu prog 98 key ok where
 keyed:=Keyed.of_law (Go.deep_law_laid laid (m:=100) (by decide) (by decide +kernel) (by kernel_rfl) (by kernel_rfl))
 lit:=atw
 inj:=by
  intro a b h;unfold key at h;injection h with h
  obtain ⟨x,y⟩:=a;obtain ⟨z,t⟩:=b;simp at h;simp [h]
end ai
end
section
open Go.RowKit Go.Maps
section
variable {w w':World} {b:Nat} {g:ai→Int} {S:List Nat} {x:ai} {st:Nat}
def CJ (w:World) (b:Nat) (l:List (ai×Int×Nat)) (kz:Nat) (g:ai→Int):Prop :=
 dv ai.key w b l kz∧(∀ e∈l,e.1.ok)∧(l.map (·.1)).Nodup∧∀ y,(dv.get l y).getD 0=g y
def jY (w:World) (b:Nat) (g:ai→Int):Prop:=∃ l kz,CJ w b l kz g
def qO (w:World) (b:Nat) (g:ai→Int) (x:ai) (st:Nat):Prop:=∃ l kz,CJ w b l kz g∧∃ (j:Nat) (v:Int),l[j]? =some (x,v,st)
theorem jY.lt (h:jY w b g):b<w.heap.size:=by obtain ⟨l,c,h,_⟩:=h;exact h.lt
theorem CJ.keep {l:List (ai×Int×Nat)} {kz:Nat} (h:CJ w b l kz g) (aj:w'.heap[b]? =w.heap[b]?):CJ w' b l kz g:=⟨h.1.keep aj,h.2⟩
theorem jY.keep (h:jY w b g) (aj:w'.heap[b]? =w.heap[b]?):jY w' b g:=by obtain ⟨l,c,h⟩:=h;exact ⟨l,c,h.keep aj⟩
theorem jY.later (h:jY w b g) (x:Ext w w'):jY w' b g:=h.keep (x.block b h.lt)
theorem jY.mod (h:jY w b g) (m:Mod S w w') (hs:b∉S):jY w' b g:=h.keep (m.block b h.lt hs)
theorem qO.map (h:qO w b g x st):jY w b g:=by obtain ⟨l,c,h,_⟩:=h;exact ⟨l,c,h⟩
theorem qO.lt (h:qO w b g x st):b<w.heap.size:=h.map.lt
theorem qO.keep (h:qO w b g x st) (aj:w'.heap[b]? =w.heap[b]?):qO w' b g x st:=by obtain ⟨l,c,h,τ⟩:=h;exact ⟨l,c,h.keep aj,τ⟩
theorem qO.later (h:qO w b g x st) (e:Ext w w'):qO w' b g x st:=h.keep (e.block b h.lt)
theorem jY.of_nil (h:n9 w b []):jY w b λ _=>0:=by
 obtain ⟨es,c,κ,τ⟩:=h;have:es.toList= []:=by
  cases he:es.toList with
  | nil=>rfl
  | cons a r=>rw [he] at τ;exact τ.elim
 have e:es=#[]:=by apply aNW;simpa using this
 subst e;exact ⟨[],c,⟨by simpa using κ,by simp,by simp⟩,by simp,by simp,λ y=>rfl⟩
def n' (b:Nat) (g:ai→Int) (w w':World):Prop:=Mod [b] w w'∧(jY w b g→jY w' b g)
theorem n'.aP (h:Ext w w'):n' b g w w':=⟨Mod.aP h,λ k=>k.later h⟩
theorem n'.trans {aM b':World} (h:n' b g w aM) (k:n' b g aM b'):n' b g w b':=⟨h.1.trans k.1,λ q=>k.2 (h.2 q)⟩
theorem UP {es:Array MapEntry} {clock:Nat}:Mod [b] w (ic w b es clock):=
 ⟨rfl,rfl,rfl,by rw [afR];exact aMO _,λ k _ hn=>Ko (by simpa using hn)⟩
def rK (g:ai→Int) (x:ai) (v:Int):ai→Int:=λ y=>if y=x then v else g y
end
section
variable {w:World} {b:Nat} {l:List (ai×Int×Nat)} {clock:Nat} {g:ai→Int}
theorem aep:prog.underlying 202 =some (.map 98 3):=by kernel_rfl
theorem avm (h:jY w b g) (x:ai) (hx:x.ok):(Instr.lookup 202 (.map (some b)) (ai.key x) false).run prog w= .ok (.int .i64 (g x)) w:=by
 obtain ⟨l,c,κ,τ,aq,bb⟩:=h;rw [← bb x];exact (dv.lookup ai.yt aep (aQj w) κ τ aq x hx).1
theorem ay5 {l:List (ai×Int×Nat)} {j:Nat} {a:ai×Int×Nat} (hm:(l.map (·.2.2)).Nodup) (aw:l[j]? =some a):((l.map (dx ai.key)).toArray).findIdx? (λ y=>((y.born:Nat):Int)== ((a.2.2:Nat):Int))=some j:=by
 rw [aQB];refine aQw (l:=l.map (dx ai.key)) (j:=j) (e0:=dx ai.key a) ?_ (by rw [aMX,aw];rfl);rw [aO4];exact hm
theorem avl (h:jY w b g) (x:ai) (hx:x.ok):∃ (st:Nat) (w':World),(Instr.mapEntry 202 (.map (some b)) (ai.key x)).run prog w= .ok (.tuple #[.int .i64 (g x), .int .i64 (st:Int)]) w'∧Mod [b] w w'∧qO w' b g x st:=by
 obtain ⟨l,clock,h,hw,hn,aT⟩:=h;obtain ⟨wm,rh⟩:=ai.yt.lit x hx;have af:=h.eh;have bB:=h.lt;have aC:=aep;have bo:=aQj;rcases dv.found ai.yt h hw x hx with ⟨κ,τ,aq⟩ | ⟨j,v0,n0,κ,τ⟩
 ·have NJ:g x=0:=by rw [← aT x,τ];rfl
  have BF:dv.put l clock x 0=l++ [(x,0,clock)]:=by
   unfold dv.put;rw [aMA];intro ha;obtain ⟨a,ha,hd⟩:=aNL.1 ha;exact aq a ha (by simpa using hd)
  have iZ:CJ (ic w b ((l++ [(x,0,clock)]).map (dx ai.key)).toArray (clock+1)) b (l++ [(x,0,clock)]) (clock+1) g:=by
   refine ⟨⟨B3 bB,λ a ha=> ?_, ?_⟩,λ a ha=> ?_, ?_,λ y=> ?_⟩
   ·rcases aMQ.1 ha with ha | ha
    ·have:=h.born a ha;omega
    ·simp at ha;subst ha;simp
   ·rw [aM0,aNk];refine ⟨h.stamps,by simp,λ a ha c hc e=> ?_⟩;simp at hc;obtain ⟨y,aH,rfl⟩:=aMT.1 ha;have:=h.born y aH;omega
   ·rcases aMQ.1 ha with ha | ha
    ·exact hw a ha
    ·simp at ha;subst ha;exact hx
   ·have:=dv.Gq hn clock x 0;rw [BF] at this;exact this
   ·have:=dv.FK l clock x y 0;rw [BF] at this;rw [this];by_cases e:y=x
    ·rw [aMI e,e,NJ];rfl
    ·rw [aMA e];exact aT y
  refine ⟨clock,_, ?_,UP,⟨_,_,iZ,l.length,0,by simp⟩⟩
  ·rw [NJ];have:(l.map (dx ai.key)).toArray.push (⟨ai.key x, .int .i64 0,clock⟩:MapEntry)=((l++ [(x,0,clock)]).map (dx ai.key)).toArray:=by simp [dx]
   simp [Instr.mapEntry,aNH aC,aNp af,ai.yt.keyed.check w false rh,κ,bo,aNM _ af,Result.andThen,ic,Go.ChangeMaps.setBlock,goInt,dx]
 ·have NJ:g x=v0:=by rw [← aT x,dv.jm hn τ];rfl
  have iZ:CJ (ic w b (l.map (dx ai.key)).toArray clock) b l clock g:=⟨⟨B3 bB,h.born,h.stamps⟩,hw,hn,aT⟩;refine ⟨n0,_, ?_,UP,⟨_,_,iZ,j,v0,τ⟩⟩
  ·rw [NJ];have aw:(l.map (dx ai.key)).toArray[j]? =some (dx ai.key (x,v0,n0)):=by simp [τ]
   have Ty:(l.map (dx ai.key)).toArray.modify j (λ e=> {e with key:=ai.key x})=(l.map (dx ai.key)).toArray:=by
    apply aNW;rw [aOD,aOw _ _ _ _ (by rw [aMX,τ];rfl)];exact aQP _ _ _ (by rw [aMX,τ];rfl)
   have Tk:(dx ai.key (x,v0,n0)).key=ai.key x:=rfl;have S2:(dx ai.key (x,v0,n0)).born=n0:=rfl;simp only [Instr.mapEntry,aML,aNH aC,aMG,aNp af,ai.yt.keyed.check w false rh,κ,aw,aOc,aNx,Tk,ai.yt.keyed.stays w rh,Ty,aNM _ af,S2,aMP];rfl
theorem avn {st:Nat} {x:ai} (h:qO w b g x st) (v:Int):∃ w',(Instr.entryStore 202 (.map (some b)) (.int .i64 (st:Int)) (.int .i64 v)).run prog w= .ok () w'∧Mod [b] w w'∧jY w' b (rK g x v):=by
 obtain ⟨l,clock,⟨h,hw,hn,aT⟩,j,v0,τ⟩:=h;have af:=h.eh;have bB:=h.lt;have d':=ay5 (a:=(x,v0,st)) h.stamps τ;have ou:l.any (λ e=>decide (e.1=x))=true:=aNL.2 ⟨_,aNi τ,by simp⟩;have tL:dv.put l clock x v=l.set j (x,v,st):=by
  unfold dv.put;rw [aMI ou];refine aOd λ i=> ?_;rw [aMX];by_cases kU:j=i
  ·subst kU;rw [τ,aNg (aMx.1 τ).1];simp
  ·rw [aNy kU];cases ak:l[i]? with
   | none=>rfl
   | some a =>
    have:a.1≠x:=by
     intro zX;have aR:(l.map (·.1))[i]? =(l.map (·.1))[j]? :=by rw [aMX,aMX,ak,τ];simp [zX]
     have:=(aPZ (by simpa using (aMx.1 ak).1) hn).1 aR;exact kU this.symm
    simp [this]
 have Jq:(l.map (dx ai.key)).toArray.modify j (λ e=> {e with val:=Value.int .i64 v})=((l.set j (x,v,st)).map (dx ai.key)).toArray:=by
  apply aNW;rw [aOD,aOw _ _ _ _ (by rw [aMX,τ];rfl),aOq];rfl
 refine ⟨ic w b ((l.set j (x,v,st)).map (dx ai.key)).toArray clock, ?_,UP,l.set j (x,v,st),clock,⟨B3 bB,λ a ha=> ?_, ?_⟩,λ a ha=> ?_, ?_,λ y=> ?_⟩
 ·rw [← Jq];simp only [Instr.entryStore,aML,aNp af,aMG,asInt,asIntOf,goInt,aMP];rw [d'];exact aNM _ af
 ·rcases aOb ha with ha | ha
  ·exact h.born a ha
  ·rw [ha];exact h.born (x,v0,st) (aNi τ)
 ·rw [aOq];have:(l.map (·.2.2)).set j st=l.map (·.2.2):=by
   obtain ⟨tG,nH⟩:=aMx.1 τ;have e:(l.map (·.2.2))[j]'(by simpa using tG)=st:=by rw [aQc,nH]
   conv=>lhs;rw [← e]
   exact aOt _
  rw [this];exact h.stamps
 ·rcases aOb ha with ha | ha
  ·exact hw a ha
  ·rw [ha];exact hw (x,v0,st) (aNi τ)
 ·have:=dv.Gq hn clock x v;rw [tL] at this;exact this
 ·have:=dv.FK l clock x y v;rw [tL] at this;rw [this];unfold rK;by_cases e:y=x
  ·rw [aMI e,aMI e];rfl
  ·rw [aMA e,aMA e];exact aT y
end
section
variable {n:Nat} {E cd:List (Nat×Value)} {a:Act} {w w' w0 aM:World} {Q:Exit→Act→World→Prop} {ops:Array Oper}
variable {d:Option Nat} {ty:TypeId} {pos:String} {aW:Array Edge} {apV:Option (Nat×Bool)} {x y z m:Operand} {rest:List Oper} {r st:Nat} {g:ai→Int} {p:ai} {v:Int}
theorem Oc (h:jY w r g) (aj:p.ok) (hx:ev E m=some (.map (some r))) (aH:ev E y=some (ai.key p)):
  cF prog E ⟨d, .lookup 202 m y false,ty,pos,aW,apV⟩ w (.int .i64 (g p)) w:=λ n a ha=>by
 simp only [execOp,ha.ev hx,ha.ev aH,aML,avm h p aj,aMG,aMP]
theorem meC {d:Nat} (h:jY w r g) (aj:p.ok) (hx:ev E m=some (.map (some r))) (aH:ev E y=some (ai.key p)) (hd:Nat.blt d n=true)
  (hK:∀ aM (st:Nat),Mod [r] w aM→qO aM r g p st→bO prog n ops Q rest ((d, .tuple #[.int .i64 (g p), .int .i64 (st:Int)])::E) aM):bO prog n ops Q (⟨some d, .mapEntry 202 m y,ty,pos,aW,none⟩::rest) E w:=by
 obtain ⟨st,aM,κ,τ,aq⟩:=avl h p aj;refine ig (w':=aM) (v:= .tuple #[.int .i64 (g p), .int .i64 (st:Int)]) (λ n a ha=> ?_) hd (hK _ st τ aq);simp only [execOp,ha.ev hx,ha.ev aH,aML,κ,aMG,aMP]
theorem RN (h:qO w r g p st) (hx:ev E m=some (.map (some r))) (aH:ev E y=some (.int .i64 (st:Int))) (bo:ev E z=some (.int .i64 v))
  (hK:∀ aM,Mod [r] w aM→jY aM r (rK g p v)→bO prog n ops Q rest E aM):bO prog n ops Q (⟨none, .entryStore 202 m y z,ty,pos,aW,none⟩::rest) E w:=by
 obtain ⟨aM,κ,τ,aq⟩:=avn h v;refine us (w':=aM) (λ n a ha=> ?_) (hK _ τ aq);simp only [execOp,ha.ev hx,ha.ev aH,ha.ev bo,aML,κ,aMG,aMP]
end
end
section
variable {k:Nat} {c:ai} {f:au} {l:List dT}
def ia (T:List a8) (c:ai):Int:=((T.countP λ t=>decide (t.spot=c):Nat):Int)
theorem OB (T:List a8) (c:ai):0≤ia T c∧ia T c≤(T.length:Int):=⟨aQ2 _,Int.ofNat_le.2 List.countP_le_length⟩
theorem awr (T:List a8) (t:a8):ia (T++ [t])=rK (ia T) t.spot (ia T t.spot+1):=by
 funext y
 unfold ia rK;rw [aPU,aQd,List.countP_nil];by_cases e:y=t.spot
 ·subst e;simp
 ·have e':¬ t.spot=y:=λ h=>e h.symm;rw [aMA e];simp [e']
theorem azm {α:Type} {T:List α} {d:α} (h:k<T.length):T.take (k+1)=T.take k++ [T.getD k d]:=by
 rw [aQ7,aMy h,aMv,aMy h];rfl
theorem aws {T:List a8} (h:k<T.length):ia (T.take (k+1))=rK (ia (T.take k)) (T.getD k default).spot (ia (T.take k) (T.getD k default).spot+1):=by
 rw [azm (d:=default) h,awr]
theorem countP_split {T:List a8} (h:k<T.length) (t:a8) (c:ai):
  ((T.countP λ t=>decide (t.spot=c):Nat):Int)=(((T.take k).countP λ t=>decide (t.spot=c):Nat):Int)+(if (T.getD k default).spot=c then 1 else 0)+(((T.drop (k+1)).countP λ t=>decide (t.spot=c):Nat):Int)∧
  (((T.set k t).countP λ t=>decide (t.spot=c):Nat):Int)=(((T.take k).countP λ t=>decide (t.spot=c):Nat):Int)+(if t.spot=c then 1 else 0)+(((T.drop (k+1)).countP λ t=>decide (t.spot=c):Nat):Int):=by
 have e:T=T.take k++T.getD k default::T.drop (k+1):=by
  conv=>lhs;rw [← aQK k T,aNs h]
  rw [aMv,aMy h];rfl
 constructor
 ·conv=>lhs;rw [e]
  rw [aPU,aQd];by_cases hc:(T.getD k default).spot=c<;>simp only [hc,aPe,aO3,aN5,aNR]<;>simp<;>omega
 ·rw [aOJ,aMI h,aPU,aQd];by_cases hc:t.spot=c<;>simp only [hc,aPe,aO3,aN5,aNR]<;>simp<;>omega
theorem awq {T:List a8} (h:k<T.length) (t:a8):
  ia (T.set k t)=rK (rK (ia T) (T.getD k default).spot (ia T (T.getD k default).spot - 1)) t.spot (rK (ia T) (T.getD k default).spot (ia T (T.getD k default).spot - 1) t.spot+1):=by
 obtain ⟨A,D,hA,aS⟩:∃ A D:ai→Int,(∀ y,ia T y=A y+(if (T.getD k default).spot=y then 1 else 0)+D y)∧∀ y,ia (T.set k t) y=A y+(if t.spot=y then 1 else 0)+D y :=
  ⟨_,_,λ y=>(countP_split h t y).1,λ y=>(countP_split h t y).2⟩
 funext y
 unfold rK;rw [aS y,hA y,hA t.spot,hA (T.getD k default).spot];generalize (T.getD k default).spot=a;generalize t.spot=b;by_cases aR:y=b
 ·subst aR;by_cases a6:y=a
  ·subst a6;simp only [aN5,eq_self];omega
  ·have cM:¬ a=y:=λ h=>a6 h.symm;simp only [aN5,a6,cM,aNR];omega
 ·have iV:¬ b=y:=λ h=>aR h.symm;by_cases a6:y=a
  ·subst a6;simp only [aN5,aR,iV,aNR];omega
  ·have cM:¬ a=y:=λ h=>a6 h.symm;simp only [aR,a6,cM,iV,aNR]
theorem azX {g:ai→Int} {n v:Int} {x:ai} (h:∀ y,0≤g y∧g y≤n) (κ: -1≤v) (τ:v≤n) (y:ai): -1≤rK g x v y∧rK g x v y≤n:=by
 unfold rK;have:=h y;split<;>omega
theorem awp {T:List a8}:0<ia T c↔∃ t∈T,t.spot=c:=by
 unfold ia;rw [Int.natCast_pos,List.countP_pos_iff];simp
def ei (l:List dT) (id:Int):Int:=hb (λ g=>g.id == id) l
theorem apY (l:List dT) (id:Int):ei l id= -1∧(∀ g∈l,g.id≠id)∨∃ k,k<l.length∧ei l id=(k:Int)∧(l.getD k default).id=id∧∀ j,j<k→(l.getD j default).id≠id:=by
 rcases asZ (λ g=>g.id == id) l with ⟨κ,τ⟩ | ⟨k,aj,κ,τ,aq⟩
 ·exact .inl ⟨κ,λ g aT=>by simpa using τ g aT⟩
 ·refine .inr ⟨k,aj,κ, ?_,λ j aw=> ?_⟩
  ·rw [aMv,aMy aj];simpa using τ
  ·rw [aMv,aMy (by omega)];simpa using aq j aw
noncomputable def step1 (f:au) (l:List dT) (T:List a8) (k:Nat):Option ai :=
 if ei l (T.getD k default).id<0 then none
 else if eH f (T.getD k default).spot (l.getD (ei l (T.getD k default).id).toNat default).bg≠0 then none
 else if (cQ f (T.getD k default).spot (l.getD (ei l (T.getD k default).id).toNat default).bg).length<2 then none
 else if 0<ia T ((cQ f (T.getD k default).spot (l.getD (ei l (T.getD k default).id).toNat default).bg).getD 1 default) then none
 else some ((cQ f (T.getD k default).spot (l.getD (ei l (T.getD k default).id).toNat default).bg).getD 1 default)
def a8.bg (t:a8) (c:ai):a8:= {t with spot:=c}
noncomputable def iA (f:au) (l:List dT) (T:List a8):Nat→List a8×List Int
 | 0=>(T, [])
 | k+1=>match step1 f l (iA f l T k).1 k with
  | none=>iA f l T k
  | some c=>((iA f l T k).1.set k (((iA f l T k).1.getD k default).bg c),(iA f l T k).2++ [((iA f l T k).1.getD k default).id])
theorem GO {T U:List a8} {M:List Int} (h:iA f l T k=(U,M)) (hs:step1 f l U k=none):iA f l T (k+1)=(U,M):=by
 show (match step1 f l (iA f l T k).1 k with | none=>_ | some c=>_)=_;rw [h];simp only [hs]
theorem GQ {T U:List a8} {M:List Int} (h:iA f l T k=(U,M)) (hs:step1 f l U k=some c):iA f l T (k+1)=(U.set k ((U.getD k default).bg c),M++ [(U.getD k default).id]):=by
 show (match step1 f l (iA f l T k).1 k with | none=>_ | some c=>_)=_;rw [h];simp only [hs]
theorem Kt {f:au} {l:List dT} {T:List a8}:∀ k,(iA f l T k).1.length=T.length∧(iA f l T k).2.length≤k
 | 0=>⟨rfl,aMO _⟩
 | k+1=>by
  have bu:=Kt (f:=f) (l:=l) (T:=T) k;cases hs:step1 f l (iA f l T k).1 k with
  | none=>rw [GO rfl hs];exact ⟨bu.1,Nat.le_succ_of_le bu.2⟩
  | some c=>rw [GQ rfl hs];exact ⟨by rw [aMM];exact bu.1,by rw [aMB,aOR];omega⟩
noncomputable def ae.kY (W:ae) (l:List dT):ae×List Int:=({W with ah:=(iA W.field l W.ah W.ah.length).1},(iA W.field l W.ah W.ah.length).2)
end
end Go.Proofs.YthlpmldmhakhaaaGreatDoor
