import Derived.Test.YthlpmldmhakhaaaGreatDoorStrZ
set_option linter.unusedVariables false
set_option linter.unusedSimpArgs false
set_option maxRecDepth 100000
set_option maxHeartbeats 4000000
open Go.RowKit
namespace Go.Proofs.YthlpmldmhakhaaaGreatDoor
open Tryz
abbrev aM7:=@decide_eq_false_iff_not
abbrev aNz:=@List.length_replicate
abbrev aNO:=@Bool.or_eq_false_iff
abbrev aN7:=@List.filter_cons
abbrev aOb:=@List.range_succ
abbrev aOk:=@List.mem_filter
abbrev aOn:=@Int.le_refl
abbrev aOT:=@Nat.le_of_eq
abbrev aOV:=@List.set_cons_zero
abbrev aPa:=@Bool.not_true
abbrev aPd:=@List.set_cons_succ
abbrev aPl:=@List.length_singleton
abbrev aPx:=@decide_false
abbrev aPA:=@Int.add_mul_emod_self_right
abbrev aPG:=@List.mem_of_find?_eq_some
abbrev aPJ:=@decide_true
abbrev aPP:=@Bool.false_or
abbrev aPY:=@List.find?_some
abbrev aQd:=@Bool.not_false
abbrev aQo:=@Bool.or_false
abbrev aQs:=@List.countP_append
abbrev aQz:=@Int.sub_self
abbrev aQA:=@Int.emod_eq_of_lt
abbrev aQB:=@Int.add_comm
abbrev aQC:=@Bool.true_or
abbrev aQD:=@Bool.or_true
abbrev aQK:=@List.countP_cons
abbrev aQP:=@Go.Proofs.Tryz.zeroValue3
abbrev aQU:=@List.perm_append_singleton
abbrev aQX:=@List.Perm.refl
abbrev aRx:=@Int.natCast_nonneg
abbrev aRC:=@List.take_add_one
abbrev aRE:=@List.getElem?_set
section
namespace cm
section
variable {α:Type} [Inhabited α] {key:α→Int} {l:List α} {i j n k:Nat} {x:α}
def swp (l:List α) (i j:Nat):List α:=(l.set i (l.getD j default)).set j (l.getD i default)
theorem lv:(swp l i j).length=l.length:=by unfold swp;rw [aNj,aNj]
theorem aaX {i k:Nat} (ak:i<l.length):(l.set i x).getD k default=if k=i then x else l.getD k default:=by
 rw [aM0,aM0,aRE];by_cases e:i=k
 ·subst e;rw [aNd rfl,aNd rfl];simp [ak]
 ·rw [aM4 e,aM4 (λ h=>e h.symm)]
theorem Co (ak:i<l.length) (aw:j<l.length):(swp l i j).getD k default=if k=j then l.getD i default else if k=i then l.getD j default else l.getD k default:=by
 unfold swp;rw [aaX (by rw [aNj];exact aw),aaX ak]
theorem Cp (ak:i<l.length) (aw:j<l.length):(swp l i j).Perm l:=by
 have h:=Array.swap_perm (xs:=l.toArray) (i:=i) (j:=j) (by simpa using ak) (by simpa using aw);have h:=h.toList;have e:(l.toArray.swap i j (by simpa using ak) (by simpa using aw)).toList=swp l i j:=by
  unfold swp;rw [aM0,aM0,aM3 ak,aM3 aw];simp [Array.swap]
 rw [e] at h;simpa using h
def o0 (key:α→Int) (l:List α) (j:Nat):List α :=
 if 0<j∧key (l.getD j default)<key (l.getD ((j - 1) / 2) default) then o0 key (swp l ((j - 1) / 2) j) ((j - 1) / 2) else l
termination_by j
decreasing_by omega
def m_ (key:α→Int) (n:Nat) (l:List α) (i:Nat):Nat:=if 2 * i+2<n∧key (l.getD (2 * i+2) default)<key (l.getD (2 * i+1) default) then 2 * i+2 else 2 * i+1
theorem J9:i<m_ key n l i:=by unfold m_;split<;>omega
theorem Uv (h:2 * i+1<n):m_ key n l i<n:=by unfold m_;split<;>omega
theorem avH:(m_ key n l i - 1) / 2=i:=by unfold m_;split<;>omega
theorem aeK (aj:0<k) (hn:k<n) (hp:(k - 1) / 2=i):key (l.getD (m_ key n l i) default)≤key (l.getD k default):=by
 have:k=2 * i+1∨k=2 * i+2:=by omega
 unfold m_;split
 ·rename_i h
  rcases this with rfl | rfl
  ·omega
  ·exact aOn _
 ·rename_i h
  rcases this with rfl | rfl
  ·exact aOn _
  ·have:¬ key (l.getD (2 * i+2) default)<key (l.getD (2 * i+1) default):=λ dP=>h ⟨hn,dP⟩;omega
def jo (key:α→Int) (n:Nat) (l:List α) (i:Nat):List α :=
 if 2 * i+1<n∧key (l.getD (m_ key n l i) default)<key (l.getD i default) then jo key n (swp l i (m_ key n l i)) (m_ key n l i) else l
termination_by n - i
decreasing_by rename_i h;have:=J9 (key:=key) (n:=n) (l:=l) (i:=i);omega
theorem aAC:∀ (j:Nat) (l:List α),(o0 key l j).length=l.length:=by
 intro j;induction j using Nat.strongRecOn with
 | ind j bu =>
  intro l;unfold o0;split
  ·rw [bu _ (by omega),lv]
  ·rfl
theorem aAD:∀ (j:Nat) (l:List α),j<l.length→(o0 key l j).Perm l:=by
 intro j;induction j using Nat.strongRecOn with
 | ind j bu =>
  intro l ay;unfold o0;split
  ·exact (bu _ (by omega) _ (by rw [lv];omega)).trans (Cp (by omega) ay)
  ·exact aQX _
theorem ZC (n:Nat):∀ (m i:Nat) (l:List α),n - i≤m→(jo key n l i).length=l.length:=by
 intro m;induction m with
 | zero=>intro i l h;unfold jo;rw [aM4 (by omega)]
 | succ m bu =>
  intro i l h;unfold jo;split
  ·have:=J9 (key:=key) (n:=n) (l:=l) (i:=i);rw [bu _ _ (by omega),lv]
  ·rfl
theorem ZD (n:Nat):∀ (m i:Nat) (l:List α),n - i≤m→n≤l.length→i<l.length→(jo key n l i).Perm l:=by
 intro m;induction m with
 | zero=>intro i l h _ _;unfold jo;rw [aM4 (by omega)]
 | succ m bu =>
  intro i l h hn ak;unfold jo;split
  ·rename_i hc
   have:=J9 (key:=key) (n:=n) (l:=l) (i:=i);have:=Uv (key:=key) (l:=l) hc.1;exact (bu _ _ (by omega) (by rw [lv];exact hn) (by rw [lv];omega)).trans (Cp ak (by omega))
  ·exact aQX _
theorem anU (n:Nat):∀ (m i:Nat) (l:List α),n - i≤m→n≤l.length→i<l.length→∀ k,n≤k→i<n→(jo key n l i).getD k default=l.getD k default:=by
 intro m;induction m with
 | zero=>intro i l h _ _ k _ _;unfold jo;rw [aM4 (by omega)]
 | succ m bu =>
  intro i l h hn ak k aj ew;unfold jo;split
  ·rename_i hc
   have κ:=J9 (key:=key) (n:=n) (l:=l) (i:=i);have τ:=Uv (key:=key) (l:=l) hc.1;rw [bu _ _ (by omega) (by rw [lv];exact hn) (by rw [lv];omega) k aj τ,Co ak (by omega),aM4 (by omega),aM4 (by omega)]
  ·rfl
def Heap (key:α→Int) (n:Nat) (l:List α):Prop:=∀ i,0<i→i<n→key (l.getD ((i - 1) / 2) default)≤key (l.getD i default)
theorem aAB (n:Nat):∀ (j:Nat) (l:List α),j<n→n≤l.length→(∀ i,0<i→i<n→i≠j→key (l.getD ((i - 1) / 2) default)≤key (l.getD i default))→
  (∀ i,0<i→i<n→(i - 1) / 2=j→0<j→key (l.getD ((j - 1) / 2) default)≤key (l.getD i default))→Heap key n (o0 key l j):=by
 intro j;induction j using Nat.strongRecOn with
 | ind j bu =>
  intro l aw hn κ τ;unfold o0;split
  ·rename_i hc
   obtain ⟨aC,bB⟩:=hc;have aU:∀ k,(swp l ((j - 1) / 2) j).getD k default=if k=j then l.getD ((j - 1) / 2) default else if k=(j - 1) / 2 then l.getD j default else l.getD k default:=λ k=>Co (by omega) (by omega)
   refine bu _ (by omega) _ (by omega) (by rw [lv];exact hn) (λ i jN ew dF=> ?_) (λ i jN ew hp yt=> ?_)
   ·rw [aU,aU];by_cases e:i=j
    ·subst e;rw [aNd rfl,aM4 (by omega),aNd rfl];omega
    ·rw [aM4 e,aM4 dF];by_cases a1:(i - 1) / 2=j
     ·rw [aNd a1];exact τ i jN ew a1 aC
     ·rw [aM4 a1];by_cases cL:(i - 1) / 2=(j - 1) / 2
      ·rw [aNd cL];have:=κ i jN ew e;rw [cL] at this;omega
      ·rw [aM4 cL];exact κ i jN ew e
   ·rw [aU,aU];rw [aM4 (by omega),aM4 (by omega)];have Oc:=κ ((j - 1) / 2) yt (by omega) (by omega);by_cases e:i=j
    ·rw [aNd e];exact Oc
    ·rw [aM4 e,aM4 (by omega)];have:=κ i jN ew e;rw [hp] at this;omega
  ·rename_i hc
   intro i jN ew;by_cases e:i=j
   ·subst e;have:¬ key (l.getD i default)<key (l.getD ((i - 1) / 2) default):=λ h=>hc ⟨jN,h⟩;omega
   ·exact κ i jN ew e
theorem anT (n:Nat):∀ (m i0:Nat) (l:List α),n - i0≤m→i0<l.length→n≤l.length→(∀ i,0<i→i<n→(i - 1) / 2≠i0→key (l.getD ((i - 1) / 2) default)≤key (l.getD i default))→
  (∀ i,0<i→i<n→(i - 1) / 2=i0→0<i0→key (l.getD ((i0 - 1) / 2) default)≤key (l.getD i default))→Heap key n (jo key n l i0):=by
 intro m;induction m with
 | zero =>
  intro i0 l h _ _ κ _;unfold jo;rw [aM4 (by omega)];intro i jN ew;exact κ i jN ew (by omega)
 | succ m bu =>
  intro i0 l h JA hn κ τ;unfold jo;split
  ·rename_i hc
   obtain ⟨Ts,bB⟩:=hc;have g1:=J9 (key:=key) (n:=n) (l:=l) (i:=i0);have g2:=Uv (key:=key) (l:=l) Ts;have g3:=avH (key:=key) (n:=n) (l:=l) (i:=i0);have g4:=λ k aj hn hp=>aeK (key:=key) (n:=n) (l:=l) (i:=i0) (k:=k) aj hn hp;generalize aw:m_ key n l i0=j at *
   have aU:∀ k,(swp l i0 j).getD k default=if k=j then l.getD i0 default else if k=i0 then l.getD j default else l.getD k default:=λ k=>Co JA (by omega)
   refine bu _ _ (by omega) (by rw [lv];omega) (by rw [lv];exact hn) (λ i jN ew dF=> ?_) (λ i jN ew hp yt=> ?_)
   ·rw [aU,aU];rw [aM4 dF];by_cases e:(i - 1) / 2=i0
    ·rw [aNd e];by_cases a1:i=j
     ·rw [aNd a1];omega
     ·rw [aM4 a1,aM4 (by omega)];exact g4 i jN ew e
    ·rw [aM4 e];by_cases a1:i=j
     ·omega
     ·rw [aM4 a1];by_cases cL:i=i0
      ·rw [aNd cL];have:=τ j (by omega) g2 g3 (by omega);rw [cL];exact this
      ·rw [aM4 cL];exact κ i jN ew e
   ·rw [aU,aU,g3];rw [aM4 (by omega),aNd rfl,aM4 (by omega),aM4 (by omega)];have:=κ i jN ew (by omega);rw [hp] at this;exact this
  ·rename_i hc
   intro i jN ew;by_cases e:(i - 1) / 2=i0
   ·have Ts:2 * i0+1<n:=by omega
    have:¬ key (l.getD (m_ key n l i0) default)<key (l.getD i0 default):=λ h=>hc ⟨Ts,h⟩;have:=aeK (key:=key) (n:=n) (l:=l) jN ew e;rw [e];omega
   ·exact κ i jN ew e
theorem Heap.min (h:Heap key n l):∀ i,i<n→key (l.getD 0 default)≤key (l.getD i default):=by
 intro i;induction i using Nat.strongRecOn with
 | ind i bu =>
  intro ak;by_cases aC:0<i
  ·exact Int.le_trans (bu ((i - 1) / 2) (by omega) (by omega)) (h i aC ak)
  ·have:i=0:=by omega
   subst this;exact aOn _
def push (key:α→Int) (l:List α) (x:α):List α:=o0 key (l++ [x]) l.length
theorem KC:(push key l x).length=l.length+1:=by unfold push;rw [aAC,aM6];rfl
theorem afK:(push key l x).Perm (x::l):=(aAD _ _ (by rw [aM6];simp)).trans (aQU x l)
theorem Yc (h:k<l.length):(l++ [x]).getD k default=l.getD k default:=by
 rw [aM0,aM0,aNw h]
theorem ax4 (h:Heap key l.length l):Heap key (push key l x).length (push key l x):=by
 rw [KC];refine aAB _ _ _ (by omega) (by simp) (λ i jN ew dF=> ?_) (λ i jN ew hp aC=>by omega);rw [Yc (by omega),Yc (by omega)];exact h i jN (by omega)
def xh (key:α→Int) (l:List α):List α:=jo key (l.length - 1) (swp l 0 (l.length - 1)) 0
def nh (key:α→Int) (l:List α):List α:=(xh key l).take (l.length - 1)
theorem afE:(xh key l).length=l.length:=by unfold xh;rw [ZC _ _ _ _ (aNk _),lv]
theorem GZ:(nh key l).length=l.length - 1:=by unfold nh;rw [aM9,afE];omega
theorem afD (aC:0<l.length):(xh key l).getD (l.length - 1) default=l.getD 0 default:=by
 unfold xh;by_cases κ:l.length - 1=0
 ·unfold jo;rw [aM4 (by omega),Co aC (by omega),aNd rfl]
 ·rw [anU _ _ _ _ (aNk _) (by rw [lv];omega) (by rw [lv];omega) _ (aNk _) (by omega),Co aC (by omega),aNd rfl]
theorem afG (aC:0<l.length):(l.getD 0 default::nh key l).Perm l:=by
 have κ:(xh key l).Perm l:=by
  unfold xh;exact (ZD _ _ _ _ (aNk _) (by rw [lv];omega) (by rw [lv];exact aC)).trans (Cp aC (by omega))
 have τ:nh key l++ [l.getD 0 default]=xh key l:=by
  have e:=afD (key:=key) aC;have ay:=afE (key:=key) (l:=l);unfold nh;rw [← e,aM0,aM3 (by omega),aN2];rw [← aNs (by omega)];exact aNr (by omega)
 exact ((aQU _ _).symm.trans (by rw [τ])).trans κ
theorem afF (h:Heap key l.length l) (aC:0<l.length):Heap key (nh key l).length (nh key l):=by
 rw [GZ];have hd:Heap key (l.length - 1) (xh key l):=by
  unfold xh;refine anT _ _ _ _ (aNk _) (by rw [lv];exact aC) (by rw [lv];omega) (λ i jN ew dF=> ?_) (λ i _ _ _ aC=>absurd aC (by omega));rw [Co aC (by omega),Co aC (by omega),aM4 (by omega),aM4 dF,aM4 (by omega),aM4 (by omega)];exact h i jN (by omega)
 intro i jN ew;have aD:∀ k,k<l.length - 1→(nh key l).getD k default=(xh key l).getD k default:=λ k aj=>by
  unfold nh;rw [aM0,aM0,aNK,aNd aj]
 rw [aD _ (by omega),aD _ ew];exact hd i jN ew
theorem Heap.least (h:Heap key l.length l):∀ y∈l,key (l.getD 0 default)≤key y:=by
 intro y aH;obtain ⟨i,ak,rfl⟩:=aNZ.1 aH;have:=h.min i ak
 rwa [show l.getD i default=l[i] by rw [aM0,aM3 ak];rfl] at this
end
end cm
end
section
namespace l_
section
variable {α:Type} {cD:α→List α} {k h:α→Int} {src:α→Prop} {x y s b:α} {d pe D:Int} {ao yr:α→Int} {Q o':List (α×Int)} {rest:List α} {e:α×Int}
inductive ma (cD:α→List α) (k:α→Int) (src:α→Prop):α→Int→Prop
 | start {s:α} (hs:src s):ma cD k src s 0
 | step {x y:α} {d:Int} (hx:ma cD k src x d) (aH:y∈cD x):ma cD k src y (d+k y)
def pZ (cD:α→List α) (k:α→Int) (src:α→Prop) (x:α) (d:Int):Prop:=ma cD k src x d∧∀ pe,ma cD k src x pe→d≤pe
structure l' (cD:α→List α) (k h:α→Int):Prop where
 GF:∀ x,∀ y∈cD x,0<k y
 aC:∀ x,0≤h x
 aj:∀ x,∀ y∈cD x,h x≤k y+h y
theorem ma.yS (o:l' cD k h) (r:ma cD k src x d):0≤d:=by
 induction r with
 | start _=>exact aOn 0
 | step _ aH bu=>have:=o.GF _ _ aH;omega
theorem pZ.uniq (κ:pZ cD k src x d) (τ:pZ cD k src x pe):d=pe:=Int.le_antisymm (κ.2 _ τ.1) (τ.2 _ κ.1)
structure Inv (cD:α→List α) (k h:α→Int) (src:α→Prop) (ao:α→Int) (Q:List (α×Int)) (cX:α) (rest:List α):Prop where
 q:∀ e∈Q,(src e.1∧e.2=0)∨∃ p,0≤ao p∧e.1∈cD p∧e.2=ao p+k e.1
 neg:∀ x,ao x<0→ao x= -1
 nK:∀ x,0≤ao x→pZ cD k src x (ao x)
 pred:∀ x,0≤ao x→(src x∧ao x=0)∨∃ p,0≤ao p∧x∈cD p∧ao x=ao p+k x
 Kv:∀ x,0≤ao x→∀ y∈cD x,0≤ao y∨(y,ao x+k y)∈Q∨(x=cX∧y∈rest)
 KL:∀ s,src s→0≤ao s∨(s,0)∈Q
 mono:∀ x,0≤ao x→∀ e∈Q,ao x+h x≤e.2+h e.1
 ahP:rest≠ []→0≤ao cX∧(∀ y∈rest,y∈cD cX)∧∀ z,0≤ao z→ao z+h z≤ao cX+h cX
theorem Inv.afY (i:Inv cD k h src ao Q x rest) (he:e∈Q):ma cD k src e.1 e.2:=by
 rcases i.q e he with ⟨κ,τ⟩ | ⟨p,κ,τ,aq⟩
 ·rw [τ];exact .start κ
 ·rw [aq];exact .step (i.nK p κ).1 τ
theorem Inv.front (o:l' cD k h) (i:Inv cD k h src ao Q s []) (r:ma cD k src x d):ao x<0→∃ e∈Q,e.2+h e.1≤d+h x:=by
 induction r with
 | start hs =>
  intro hx;rcases i.KL _ hs with κ | κ
  ·omega
  ·exact ⟨_,κ,aOn _⟩
 | @step x y d r aH bu =>
  intro aHt;by_cases hx:ao x<0
  ·obtain ⟨e,he,hle⟩:=bu hx;have:=o.aj x y aH;exact ⟨e,he,by omega⟩
  ·rcases i.Kv x (by omega) y aH with κ | κ | ⟨_,κ⟩
   ·omega
   ·have:=(i.nK x (by omega)).2 d r;exact ⟨_,κ,by dsimp only;omega⟩
   ·simp at κ
theorem Inv.axO (i:Inv cD k h src ao Q x []) (hp:Q.Perm (e::o')) (hd:0≤ao e.1):Inv cD k h src ao o' x []:=by
 have hs:∀ z∈o',z∈Q:=λ z bo=>hp.symm.subset (aNe _ bo);have I:∀ z∈Q,z=e∨z∈o':=λ z bo=>aNg.1 (hp.subset bo);refine ⟨λ z bo=>i.q z (hs z bo),i.neg,i.nK,i.pred,λ a ha c hc=> ?_,λ s as3=> ?_,λ a ha z bo=>i.mono a ha z (hs z bo),λ hn=>absurd Z hn⟩
 ·rcases i.Kv a ha c hc with κ | κ | κ
  ·exact .inl κ
  ·rcases I _ κ with τ | τ
   ·left;rw [← τ] at hd;exact hd
   ·exact .inr (.inl τ)
  ·exact .inr (.inr κ)
 ·rcases i.KL s as3 with κ | κ
  ·exact .inl κ
  ·rcases I _ κ with τ | τ
   ·left;rw [← τ] at hd;exact hd
   ·exact .inr τ
theorem Inv.axN (o:l' cD k h) (i:Inv cD k h src ao Q s []) (hp:Q.Perm (e::o')) (hd:ao e.1<0) (ab3:∀ z∈Q,e.2+h e.1≤z.2+h z.1) (sN:yr e.1=e.2) (dF:∀ z,z≠e.1→yr z=ao z):Inv cD k h src yr o' e.1 (cD e.1)∧0≤e.2:=by
 have hs:∀ z∈o',z∈Q:=λ z bo=>hp.symm.subset (aNe _ bo);have I:∀ z∈Q,z=e∨z∈o':=λ z bo=>aNg.1 (hp.subset bo);have Gk:e∈Q:=hp.symm.subset aNo;have acm:=i.afY Gk;have mj:=acm.yS o;have lO:∀ z,0≤ao z→yr z=ao z:=λ z bo=>dF z (λ aR=>by rw [aR] at bo;omega);have mT:pZ cD k src e.1 e.2:=⟨acm,λ pe r=>by
  obtain ⟨z,bo,hle⟩:=i.front o r hd;have:=ab3 z bo
  omega⟩
 have abW:∀ a,0≤yr a→yr a+h a≤e.2+h e.1:=λ a ha=>by
  by_cases aR:a=e.1
  ·subst aR;omega
  ·rw [dF a aR] at ha ⊢;exact i.mono a ha e Gk
 refine ⟨⟨λ z bo=> ?_,λ a ha=> ?_,λ a ha=> ?_,λ a ha=> ?_,λ a ha c hc=> ?_,λ a ha=> ?_,λ a ha z bo=> ?_,λ _=>⟨by omega,λ y aH=>aH,λ a ha=>by rw [sN];exact abW a ha⟩⟩,mj⟩
 ·rcases i.q z (hs z bo) with κ | ⟨p,κ,τ,aq⟩
  ·exact .inl κ
  ·exact .inr ⟨p,by rw [lO p κ];exact κ,τ,by rw [lO p κ];exact aq⟩
 ·by_cases aR:a=e.1
  ·subst aR;omega
  ·rw [dF a aR] at ha ⊢;exact i.neg a ha
 ·by_cases aR:a=e.1
  ·rw [aR,sN];exact mT
  ·rw [dF a aR] at ha ⊢;exact i.nK a ha
 ·by_cases aR:a=e.1
  ·rw [aR,sN];rcases i.q e Gk with κ | ⟨p,κ,τ,aq⟩
   ·exact .inl κ
   ·exact .inr ⟨p,by rw [lO p κ];exact κ,τ,by rw [lO p κ];exact aq⟩
  ·rw [dF a aR] at ha ⊢;rcases i.pred a ha with κ | ⟨p,κ,τ,aq⟩
   ·exact .inl κ
   ·exact .inr ⟨p,by rw [lO p κ];exact κ,τ,by rw [lO p κ];exact aq⟩
 ·by_cases aR:a=e.1
  ·exact .inr (.inr ⟨aR,by rw [← aR];exact hc⟩)
  ·rw [dF a aR] at ha ⊢;rcases i.Kv a ha c hc with κ | κ | ⟨_,κ⟩
   ·left;rw [lO c κ];exact κ
   ·rcases I _ κ with τ | τ
    ·left;have:c=e.1:=by rw [← τ]
     rw [this,sN];exact mj
    ·exact .inr (.inl τ)
   ·simp at κ
 ·rcases i.KL a ha with κ | κ
  ·left;rw [lO a κ];exact κ
  ·rcases I _ κ with τ | τ
   ·left;have:a=e.1:=by rw [← τ]
    rw [this,sN];exact mj
   ·exact .inr τ
 ·have:=abW a ha;have:=ab3 z (hs z bo);omega
theorem Inv.push (o:l' cD k h) (i:Inv cD k h src ao Q x (y::rest)) (hp:o'.Perm ((y,ao x+k y)::Q)):Inv cD k h src ao o' x rest:=by
 have hs:∀ z∈Q,z∈o':=λ z bo=>hp.symm.subset (aNe _ bo);have hn:(y,ao x+k y)∈o':=hp.symm.subset aNo;have I:∀ z∈o',z=(y,ao x+k y)∨z∈Q:=λ z bo=>aNg.1 (hp.subset bo);obtain ⟨fo,fU,iq⟩:=i.ahP (by simp);have acw:=fU y aNo;refine ⟨λ z bo=> ?_,i.neg,i.nK,i.pred,λ a ha c hc=> ?_,λ a ha=>(i.KL a ha).imp id (hs _),λ a ha z bo=> ?_,λ _=>⟨fo,λ c hc=>fU c (aNe _ hc),iq⟩⟩
 ·rcases I z bo with rfl | κ
  ·exact .inr ⟨x,fo,acw,Z⟩
  ·exact i.q z κ
 ·rcases i.Kv a ha c hc with κ | κ | ⟨κ,τ⟩
  ·exact .inl κ
  ·exact .inr (.inl (hs _ κ))
  ·rcases aNg.1 τ with aq | aq
   ·subst κ;subst aq;exact .inr (.inl hn)
   ·exact .inr (.inr ⟨κ,aq⟩)
 ·rcases I z bo with rfl | κ
  ·have:=iq a ha;have:=o.aj x y acw;dsimp only;omega
  ·exact i.mono a ha z κ
theorem Inv.skip (i:Inv cD k h src ao Q x (y::rest)) (aH:0≤ao y):Inv cD k h src ao Q x rest:=by
 obtain ⟨fo,fU,iq⟩:=i.ahP (by simp);refine ⟨i.q,i.neg,i.nK,i.pred,λ a ha c hc=> ?_,i.KL,i.mono,λ _=>⟨fo,λ c hc=>fU c (aNe _ hc),iq⟩⟩;rcases i.Kv a ha c hc with κ | κ | ⟨κ,τ⟩
 ·exact .inl κ
 ·exact .inr (.inl κ)
 ·rcases aNg.1 τ with aq | aq
  ·subst aq;exact .inl aH
  ·exact .inr (.inr ⟨κ,aq⟩)
theorem Inv.start (hn:∀ x,ao x= -1) (I:∀ e∈Q,src e.1∧e.2=0) (hs:∀ s,src s→(s,0)∈Q):Inv cD k h src ao Q x [] :=
 ⟨λ e he=> .inl (I e he),λ a _=>hn a,λ a ha=>by rw [hn a] at ha;omega,λ a ha=>by rw [hn a] at ha;omega,λ a ha=>by rw [hn a] at ha;omega,λ s κ=> .inr (hs s κ),λ a ha=>by rw [hn a] at ha;omega,λ κ=>absurd rfl κ⟩
theorem Inv.all (o:l' cD k h) (i:Inv cD k h src ao [] s []) (r:ma cD k src x d):0≤ao x:=by
 by_cases hx:ao x<0
 ·obtain ⟨e,he,_⟩:=i.front o r hx;simp at he
 ·omega
structure Spec (cD:α→List α) (k h:α→Int) (src:α→Prop) (b:α) (ao:α→Int):Prop where
 neg:∀ x,ao x<0→ao x= -1
 nK:∀ x,0≤ao x→pZ cD k src x (ao x)∧∀ D,pZ cD k src b D→ao x+h x≤D
 known:∀ x d,pZ cD k src x d→(∀ D,pZ cD k src b D→d+h x≤D)→ao x=d
 pred:∀ x,0≤ao x→(src x∧ao x=0)∨∃ p,0≤ao p∧x∈cD p∧ao x=ao p+k x
theorem Spec.uniq (s1:Spec cD k h src b ao) (s2:Spec cD k h src b yr) (x:α):ao x=yr x:=by
 by_cases κ:0≤ao x
 ·exact (s2.known x _ (s1.nK x κ).1 (s1.nK x κ).2).symm
 ·by_cases τ:0≤yr x
  ·exact s1.known x _ (s2.nK x τ).1 (s2.nK x τ).2
  ·rw [s1.neg x (by omega),s2.neg x (by omega)]
theorem Inv.ends (o:l' cD k h) (i:Inv cD k h src ao Q s []) (af:h b=0) (hm:0≤ao b→∀ x,0≤ao x→ao x+h x≤ao b) (he:(0≤ao b∧∀ e∈Q,ao b<e.2+h e.1)∨Q= []):Spec cD k h src b ao:=by
 refine ⟨i.neg,λ x hx=>⟨i.nK x hx,λ D mT=> ?_⟩,λ x d hd hle=> ?_,i.pred⟩
 ·by_cases κ:0≤ao b
  ·have:=hm κ x hx;rw [mT.uniq (i.nK b κ)];exact this
  ·rcases he with he | he
   ·omega
   ·subst he;exact absurd (i.all o mT.1) κ
 ·by_cases κ:ao x<0
  ·obtain ⟨e,Gk,aj⟩:=i.front o hd.1 κ;rcases he with ⟨τ,aq⟩ | τ
   ·have:=hle _ (i.nK b τ);have:=aq e Gk;omega
   ·subst τ;simp at Gk
  ·exact (i.nK x (by omega)).uniq hd
theorem Spec.end_ (s:Spec cD k h src b ao) (af:h b=0) (hd:pZ cD k src b D):ao b=D:=s.known b D hd λ aDu κ=>by rw [af,hd.uniq κ];omega
theorem ma.acE (o:l' cD k h) (r:ma cD k src x d):∃ d,pZ cD k src x d:=by
 have:∀ n:Nat,∀ d,ma cD k src x d→d.toNat=n→∃ d,pZ cD k src x d:=by
  intro n;induction n using Nat.strongRecOn with
  | ind n bu =>
   intro d r hn;by_cases hex:∃ pe,ma cD k src x pe∧pe<d
   ·obtain ⟨pe,r',bB⟩:=hex;have:=r'.yS o;exact bu pe.toNat (by omega) pe r' Z
   ·exact ⟨d,r,λ pe r'=>by
     by_cases bB:pe<d
     ·exact absurd ⟨pe,r',bB⟩ hex
     ·omega⟩
 exact this _ d r Z
end
end l_
end
theorem LP:dN prog ai.rep 49 98 16:=dN.jz (z:=ai.zero) (k:=2) underlying49 ai.info rfl rfl (by decide) ai.k6
def iD (n:Int):Int:=if n<0 then -1 else if 0<n then 1 else 0
def cf (n:Int):Int:=if n<0 then -n else if 0<n then n else 0
theorem iG (n:Int):0≤cf n∧(-2000≤n∧n≤2000→cf n≤2000)∧(0≤n→cf n=n)∧(n<0→cf n= -n):=by unfold cf;split<;>(try split)<;>omega
theorem G6 (n:Int): -1≤iD n∧iD n≤1:=by unfold iD;split<;>(try split)<;>omega
def far (a b:ai):Int:=max (cf (b.x - a.x)) (cf (b.y - a.y))
def uh (a b:ai):Int:=min (cf (b.x - a.x)) (cf (b.y - a.y))
def oN (a b:ai) (s:Int×ai):Int×ai :=
  (if decide (far a b≤s.1+2 * uh a b) then s.1+2 * uh a b - 2 * far a b else s.1+2 * uh a b,
   ⟨if !decide (cf (b.x - a.x)<cf (b.y - a.y)) || decide (far a b≤s.1+2 * uh a b) then s.2.x+iD (b.x - a.x) else s.2.x,
    if decide (cf (b.x - a.x)<cf (b.y - a.y)) || decide (far a b≤s.1+2 * uh a b) then s.2.y+iD (b.y - a.y) else s.2.y⟩)
def dh (a b:ai):Nat→Int×ai
  | 0=>(0,a)
  | k+1=>oN a b (dh a b k)
def rS (a b:ai) (k:Nat):List ai:=(List.range (k+1)).map λ i=>(dh a b i).2
def hV (a b:ai):List ai:=rS a b (far a b).toNat
theorem O5 (a b:ai) (k:Nat):rS a b (k+1)=rS a b k++ [(dh a b (k+1)).2]:=by unfold rS;rw [aOb,aNx];rfl
theorem Eo (a b:ai) (k:Nat):(rS a b k).length=k+1:=by simp [rS]
theorem apK (a b:ai):0≤uh a b∧uh a b≤far a b:=by
  have κ:=iG (b.x - a.x);have τ:=iG (b.y - a.y);unfold uh far;omega
theorem aeL (a b:ai) (k:Nat): -far a b≤(dh a b k).1∧(dh a b k).1≤far a b:=by
  have hf:=apK a b;induction k with
  | zero=>show -far a b≤0∧0≤far a b;omega
  | succ k bu =>
    show -far a b≤(oN a b (dh a b k)).1∧(oN a b (dh a b k)).1≤far a b;unfold oN;simp only [aM8];split<;>omega
theorem aeM (a b:ai) (k:Nat):a.x - k≤(dh a b k).2.x∧(dh a b k).2.x≤a.x+k∧a.y - k≤(dh a b k).2.y∧(dh a b k).2.y≤a.y+k:=by
  have κ:=G6 (b.x - a.x);have τ:=G6 (b.y - a.y);induction k with
  | zero=>show a.x - _≤a.x∧a.x≤a.x+_∧a.y - _≤a.y∧a.y≤a.y+_;omega
  | succ k bu =>
    show a.x - _≤(oN a b (dh a b k)).2.x∧(oN a b (dh a b k)).2.x≤a.x+_∧a.y - _≤(oN a b (dh a b k)).2.y∧(oN a b (dh a b k)).2.y≤a.y+_;unfold oN;simp only;split<;>split<;>omega
theorem OQ (c:ai) (w:World) (h: -1000≤c.x∧c.x≤1000∧ -1000≤c.y∧c.y≤1000):
    Calls prog 161 #[.agg #[γ c.x,γ c.y]] w (λ e w'=>e= .returned (.bool true)∧Ext w w'):=by
  refine cx (n:=23) func161 Z Z Z ?_;refine fa Z Z λ dk bx bm fQ ag=> ?_;refine aT Z<|aF<|aa (au hE Z)<|bA Z ag a6 Z<|aa (au hE Z)<|bA Z ag a6 Z<|aa (UJ Z fP)<|aa (au hG Z)<|bA Z ag a6 Z<|aa (au hG Z)<|bA Z ag a6 Z<|aa (UJ Z fP)<|aa (avN Z Z Z Z)<|aa (ble Z Z)<|vm Z<|b9 Z (λ hc=>au hE Z)<|b9 Z (λ hc=>aB (gt hc Z) (ag.one a6 Z))<|b9 Z (λ hc=>au hG Z)<|b9 Z (λ hc=>aB (gt hc Z) (ag.one a6 Z))<|b9 Z (λ hc=>Kp (gt hc Z) (gt hc Z))<|b9 Z (λ hc=>ld (gt hc Z) Z)<| ?_;refine aa (eZ Z Z Z Z)<|bH Z<|cZ Z Z<| ?_;exact ⟨ayO (by simp only [aNa,aM8];omega),bm⟩
theorem Pe (n:Int) (w:World) (h: -2000≤n∧n≤2000):
    Calls prog 162 #[γ n] w (λ e w'=>e= .returned (.tuple #[γ (iD n),γ (cf n)])∧Ext w w'):=by
  refine cx (n:=13) func162 Z Z Z ?_;refine aF<|va Z<|aT Z<|aI<|bT<|aK Z<|fB Z Z<|aT Z<| ?_;refine fH Z (λ po=> ?_) (λ po=> ?_)
  · refine aK rfl<|aa (UJ rfl fP)<|va rfl<|bH rfl<|hq<|cU<|ht rfl rfl rfl<| ?_
    exact ⟨by unfold iD cf;simp only [*,aOB,aOm];try rfl,(Ext.bN w)⟩
  · refine aK rfl<|aa (hO rfl rfl)<|aT rfl<| ?_
    refine fH Z (λ aq4=> ?_) (λ aq4=> ?_)
    · refine aK rfl<|va rfl<|bH rfl<|hq<|cU<|ht rfl rfl rfl<| ?_
      exact ⟨by unfold iD cf;simp only [*,aOB,aOm];try rfl,(Ext.bN w)⟩
    · refine fZ<|cl<|br<|aF<|va rfl<|bH rfl<|ht rfl rfl rfl<| ?_
      exact ⟨by unfold iD cf;simp only [*,aOB,aOm];try rfl,(Ext.bN w)⟩
theorem Yb (a b:ai) (w:World) (h: -1000≤a.x∧a.x≤1000∧ -1000≤a.y∧a.y≤1000) (τ: -1000≤b.x∧b.x≤1000∧ -1000≤b.y∧b.y≤1000):
    Calls prog 147 #[.agg #[γ a.x,γ a.y], .agg #[γ b.x,γ b.y]] w (λ e w'=>e= .returned (.tuple #[γ (far a b),γ (cf (b.x - a.x)+cf (b.y - a.y)),γ 0])∧Ext w w'):=by
  refine cx (n:=43) func147 Z Z Z ?_;refine fa Z Z λ dk bx bm fQ ag=> ?_;refine jn Z Z λ fT dJ bD j' aG=> ?_;have b7:=J bm bD;refine va Z<|va Z<|aT Z<|aI<|aF<| ?_;have ag:=ag.later bD;refine aa (aB Z (ag.all b2 bs))<|c0 Nc Z (OQ a _ (by omega)) λ hX gp=> ?_;have cY:=J b7 gp;refine aa (dD Z)<|vm Z<|il Z Z Z<| ?_;have aG:=aG.later gp;refine aa (aB Z (aG.all b2 bs))<|il Z Z Z<|c0 Nc Z (OQ b _ (by omega)) λ AO hy=> ?_;have nt:=J cY hy;refine il Z Z Z<|aa (dD Z)<|aa (oV Z Z)<|aJ<|hP Z<|bE<|aF<|aa (au hE Z)<| ?_;have aG:=aG.later hy;refine bA Z aG a6 Z<|aa (au hE Z)<| ?_;have ag:=ag.later (J gp hy);refine bA Z ag a6 Z<|aa (iM Z Z (ll (by have:=iG (b.x - a.x);have:=iG (b.y - a.y);omega)))<|c0 Nj Z (Pe (b.x - a.x) _ (by omega)) λ rW jU=> ?_;have hZ:=J nt jU;refine vm Z<|b0 Z Z<|b0 Z Z<|va Z<|aT Z<|aF<|aa (au hG Z)<| ?_;have aG:=aG.later jU;refine bA Z aG a6 Z<|aa (au hG Z)<| ?_;have ag:=ag.later jU;refine bA Z ag a6 Z<|aa (iM Z Z (ll (by have:=iG (b.x - a.x);have:=iG (b.y - a.y);omega)))<|c0 Nj Z (Pe (b.y - a.y) _ (by omega)) λ uE iu=> ?_;have ke:=J hZ iu;refine vm Z<|b0 Z Z<|b0 Z Z<|va Z<|aT Z<|aK Z<|vm Z<|aa (mx Z Z)<|vm Z<|vm Z<|aa (bad Z Z (ll (by have:=iG (b.x - a.x);have:=iG (b.y - a.y);omega)))<|va Z<|va Z<|bH Z<|dS (.tmp Z (.tmp Z (.tmp Z .nil)))<| ?_;exact ⟨Z,ke⟩
theorem am0 (a b:ai) (w:World) (h: -1000≤a.x∧a.x≤1000∧ -1000≤a.y∧a.y≤1000) (τ: -1000≤b.x∧b.x≤1000∧ -1000≤b.y∧b.y≤1000):
    Calls prog 151 #[.agg #[γ a.x,γ a.y], .agg #[γ b.x,γ b.y]] w (λ e w'=>∃ A c,e= .returned (.tuple #[.slice A (hV a b).length c,γ 0])∧ai.rep.aM 98 16 w' w.heap.size (Φ.ab A) A c (hV a b)∧Ext w w'):=by
  refine cx (n:=93) func151 Z Z Z ?_;refine fa Z Z λ dk bx bm fQ ag=> ?_;have jd:=ag.lt;refine jn Z Z λ fT dJ bD j' aG=> ?_;have b7:=J bm bD;have qG:=aG.lt;refine va Z<|aT Z<|aI<|aF<| ?_;have ag:=ag.later bD;refine aa (aB Z (ag.all b2 bs))<|c0 Nc Z (OQ a _ (by omega)) λ hX gp=> ?_;have:=gp.size;have cY:=J b7 gp;refine aa (dD Z)<|vm Z<|il Z Z Z<| ?_;have aG:=aG.later gp;refine aa (aB Z (aG.all b2 bs))<|il Z Z Z<|c0 Nc Z (OQ b _ (by omega)) λ AO hy=> ?_;have:=hy.size;have nt:=J cY hy;refine il Z Z Z<|aa (dD Z)<|aa (oV Z Z)<|aJ<|hP Z<|bE<|aF<|aa (au hE Z)<| ?_;have aG:=aG.later hy;refine bA Z aG a6 Z<|aa (au hE Z)<| ?_;have ag:=ag.later (J gp hy);refine bA Z ag a6 Z<|aa (iM Z Z fP)<|c0 Nj Z (Pe (b.x - a.x) _ (by omega)) λ rW jU=> ?_;have:=jU.size;have hZ:=J nt jU;refine vm Z<|b0 Z Z<|b0 Z Z<|va Z<|aT Z<|aF<|aa (au hG Z)<| ?_;have aG:=aG.later jU;refine bA Z aG a6 Z<|aa (au hG Z)<| ?_;have ag:=ag.later jU;refine bA Z ag a6 Z<|aa (iM Z Z fP)<|c0 Nj Z (Pe (b.y - a.y) _ (by omega)) λ uE iu=> ?_;have:=iu.size;have ke:=J hZ iu;refine vm Z<|b0 Z Z<|b0 Z Z<|va Z<|aT Z<|aK Z<|vm Z<|va Z<|aT Z<|aI<|aK Z<|vm Z<|aa (hO Z Z)<|aJ<| ?_;refine fH Z (λ S1=> ?_) (λ S1=> ?_)
  · have ry:=iG (b.x - a.x)
    have nP:=iG (b.y - a.y);have ia:far a b=cf (b.y - a.y):=by unfold far;omega
    have JI:uh a b=cf (b.x - a.x):=by unfold uh;omega
    have Jw:decide (cf (b.x - a.x)<cf (b.y - a.y))=true:=by exact aNp S1
    refine rg<|vm Z<|vm Z<|va Z<|aT Z<|aF<| ?_;have ag:=ag.later iu;refine aa (aB Z (ag.all b2 bs))<|b_ (e:= 98) (cs:= [γ a.x,γ a.y]) Z (λ _=>by kernel_rfl) Z λ EC Mx kd aun LA=> ?_;have nv:=J ke kd;refine aT Z<|aF<|aT Z<|aI<|aK Z<|vm Z<|aJ<|bT<| ?_;have ag:=ag.later kd;have avB:∀ q∈Φ.ab (a_ Mx),Mx≤q:=λ q I=>aOT (aMZ.1 I).symm;refine gi (λ cJ cu aV=>∃ k:Nat,∃ ct:Option Addr,∃ co:Nat,cu= [(2, .pointer (a_ bx)),(4, .slice none 0 0),(5,γ 0),(6,γ (iD (b.x - a.x))),(7,γ (cf (b.x - a.x))),(8,γ (iD (b.y - a.y))),(9,γ (cf (b.y - a.y))),(10,γ (cf (b.y - a.y))),(11,γ (cf (b.x - a.x))),(12, .slice ct ((rS a b k).length) co),(13,γ ((dh a b k).1)),(50,γ (cf (b.y - a.y))),(51,γ (k:Int))]∧cJ=(cf (b.y - a.y)).toNat - k∧Ext w aV∧aO aV bx [γ ((dh a b k).2.x),γ ((dh a b k).2.y)] 98 (0,0)∧ai.rep.aM 98 16 aV w.heap.size (Φ.ab ct) ct co (rS a b k)∧((k:Int)≤cf (b.y - a.y))∧(∀ q∈Φ.ab ct,q=bx→False)) _ _ ⟨0,some ⟨Mx,0,none⟩,1,Z,Z,nv,ag,(aO.Ky (R:=ai.rep) (by_:=16) (B:=w.heap.size) (k:= [a]) LA [[γ a.x,γ a.y]] Z ⟨⟨Z,cI.2 (by omega),cI.2 (by omega)⟩,trivial⟩ (by simp) (by simp) (by decide) (by omega)),(by have:=iG (b.y - a.y);have:=iG (b.x - a.x);omega),(λ q I af=>by (have:=avB q I;omega))⟩ (.cons Z (.cons Z (.cons Z (.cons Z (.cons Z (.cons Z (.cons Z (.cons Z (.cons Z (.cons Z (.cons (rE Z) (eS Z Z Z)))))))))))) ?_;rintro rH XI xr ⟨k,ct,co,rfl,rfl,jW,gO,bW,aj,ot⟩;have aKB:=gO.lt;have af:=aeL a b k;have hp:=aeM a b k;have gh:=G6 (b.x - a.x);have iN:=G6 (b.y - a.y);have ry:=iG (b.x - a.x);have nP:=iG (b.y - a.y);have tX:=Eo a b k;refine aF<|fB Z Z<|aJ<|aI<| ?_;refine fH Z (λ aq6=> ?_) (λ aq6=> ?_)
    · refine bE<|aI<|bT<|aK rfl<|vm rfl<|aa (zM rfl rfl fP)<|fl rfl rfl<|aT rfl<|aK rfl<|vm rfl<|aa (ld rfl rfl)<|aT rfl<|aI<|aF<| ?_
      refine vm Z<|aJ<| ?_;refine Dc Z (λ Af=> ?_) (λ Af=> ?_)
      · rw [ia] at af
        have Dz:decide (cf (b.y - a.y)≤((dh a b k).1)+(2 * (cf (b.x - a.x))))=true:=by exact aNp Af
        refine rg<|vm Z<|vm Z<|aa (zM Z Z fP)<|aa (iM Z Z fP)<|aT Z<|aI<|aK Z<|vm Z<|aa (ld Z Z)<|vm Z<|fS Z Z<|aa (gv Z Z Z Z)<|aJ<| ?_;have Jn:((decide (cf (b.y - a.y)≤cf (b.x - a.x))) || (decide (cf (b.y - a.y)≤((dh a b k).1)+(2 * (cf (b.x - a.x))))))=true:=by simp only [aNG,aM8];omega
        refine gZ (by rw [← Jn];rfl)<|rg<|aa (au hE Z)<|bA Z gO a6 Z<|vm Z<|fl Z Z<|aa (au hE Z)<|fM Z Z gO Z cr Z Z λ PE wX gO=> ?_;have:=wX.size;have A7:=Ext.mod jW wX bF;refine aJ<|aI<|aK Z<|vm Z<|aa (hO Z Z)<|vm Z<|fS Z Z<|aa (gv Z Z Z Z)<|aJ<| ?_;have tQ:((decide (cf (b.x - a.x)<cf (b.y - a.y))) || (decide (cf (b.y - a.y)≤((dh a b k).1)+(2 * (cf (b.x - a.x))))))=true:=by simp only [aNG,aM8];omega
        refine gZ (by rw [← tQ];rfl)<|rg<|aa (au hG Z)<|bA Z gO a6 Z<|vm Z<|fl Z Z<|aa (au hG Z)<|fM Z Z gO Z cr Z Z λ V6 oP gO=> ?_;have:=oP.size;have CI:=Ext.mod A7 oP bF;refine aJ<|rg<|vm Z<|aa (aB Z (gO.all b2 bs))<|b_ (e:= 98) (cs:= [γ (((dh a b k).2.x)+(iD (b.x - a.x))),γ (((dh a b k).2.y)+(iD (b.y - a.y)))]) Z (λ _=>by kernel_rfl) Z λ ahq aEQ CD aIv Xu=> ?_;have Hw:=J CI CD;have aye:=Xu.lt;have bW:=((bW.mod wX (c2 ot)).mod oP (c2 ot)).later CD;refine ap LP Φ.c6 bW (aO.fy (R:=ai.rep) (by_:=16) (q:=(⟨((dh a b k).2.x)+(iD (b.x - a.x)),((dh a b k).2.y)+(iD (b.y - a.y))⟩:ai)) Xu ⟨Z,⟨gl,gl⟩⟩ (by decide)) Z Z (by simp only [aM1,aM5];omega) (by simp only [aM1,aM5];omega) Hw.size Z λ K5 aiP amA oQ akG aqv aJD=> ?_;have uZ:=Ext.mod Hw oQ (λ q I=>(bW.lt q I).1);refine va Z<|nl<|cl<|eR Z Z Z<| ?_;have aR:dh a b (k+1)=((((dh a b k).1)+(2 * (cf (b.x - a.x)))) - (2 * (cf (b.y - a.y))),⟨((dh a b k).2.x)+(iD (b.x - a.x)),((dh a b k).2.y)+(iD (b.y - a.y))⟩):=by
          show oN a b (dh a b k)=_;unfold oN;simp only [ia,JI,Jw,Dz,aOB,aOm,aQD,aQC,aQo,aPP,aNR,aPJ,aPx,aPa,aQd]
        have a1:=O5 a b k;rw [aR] at a1;have cL:(rS a b (k+1)).length=k+2:=Eo a b (k+1);have gO:=(gO.later CD).mod oQ (λ I=>ot _ I rfl);exact lT _ _ ⟨k+1,aiP,amA,Z,Z,uZ,(by rw [aR];exact gO),(by rw [a1];exact akG),by omega,(gz aqv ot)⟩ (by omega) (.cons Z (.cons Z (.cons Z (.cons Z (.cons Z (.cons Z (.cons Z (.cons Z (.cons Z (.cons (by rw [a1];rfl) (.cons (B6 Z (by rw [aR])) (eS Z Z Z))))))))))))
      · rw [ia] at af
        have Dz:decide (cf (b.y - a.y)≤((dh a b k).1)+(2 * (cf (b.x - a.x))))=false:=by exact aNu Af
        refine bE<|aI<|aK Z<|vm Z<|aa (ld Z Z)<|vm Z<|fS Z Z<|aa (gv Z Z Z Z)<|aJ<| ?_;have arf:((decide (cf (b.y - a.y)≤cf (b.x - a.x))) || (decide (cf (b.y - a.y)≤((dh a b k).1)+(2 * (cf (b.x - a.x))))))=false:=by simp only [aNO,aM7];omega
        refine hP (by rw [← arf];rfl)<|bE<|aI<|aK Z<|vm Z<|aa (hO Z Z)<|vm Z<|fS Z Z<|aa (gv Z Z Z Z)<|aJ<| ?_;have Ag:((decide (cf (b.x - a.x)<cf (b.y - a.y))) || (decide (cf (b.y - a.y)≤((dh a b k).1)+(2 * (cf (b.x - a.x))))))=true:=by simp only [aNG,aM8];omega
        refine gZ (by rw [← Ag];rfl)<|rg<|aa (au hG Z)<|bA Z gO a6 Z<|vm Z<|fl Z Z<|aa (au hG Z)<|fM Z Z gO Z cr Z Z λ ahv Cd gO=> ?_;have:=Cd.size;have Ls:=Ext.mod jW Cd bF;refine aJ<|rg<|vm Z<|aa (aB Z (gO.all b2 bs))<|b_ (e:= 98) (cs:= [γ ((dh a b k).2.x),γ (((dh a b k).2.y)+(iD (b.y - a.y)))]) Z (λ _=>by kernel_rfl) Z λ K8 aE1 uW aIG Xz=> ?_;have ny:=J Ls uW;have aKV:=Xz.lt;have bW:=(bW.mod Cd (c2 ot)).later uW;refine ap LP Φ.c6 bW (aO.fy (R:=ai.rep) (by_:=16) (q:=(⟨(dh a b k).2.x,((dh a b k).2.y)+(iD (b.y - a.y))⟩:ai)) Xz ⟨Z,⟨gl,gl⟩⟩ (by decide)) Z Z (by simp only [aM1,aM5];omega) (by simp only [aM1,aM5];omega) ny.size Z λ aMQ aiS amF wZ akL aqx aJJ=> ?_;have aC5:=Ext.mod ny wZ (λ q I=>(bW.lt q I).1);refine va Z<|nl<|cl<|eR Z Z Z<| ?_;have aR:dh a b (k+1)=(((dh a b k).1)+(2 * (cf (b.x - a.x))),⟨(dh a b k).2.x,((dh a b k).2.y)+(iD (b.y - a.y))⟩):=by
          show oN a b (dh a b k)=_;unfold oN;simp only [ia,JI,Jw,Dz,aOB,aOm,aQD,aQC,aQo,aPP,aNR,aPJ,aPx,aPa,aQd]
        have a1:=O5 a b k;rw [aR] at a1;have cL:(rS a b (k+1)).length=k+2:=Eo a b (k+1);have gO:=(gO.later uW).mod wZ (λ I=>ot _ I rfl);exact lT _ _ ⟨k+1,aiS,amF,Z,Z,aC5,(by rw [aR];exact gO),(by rw [a1];exact akL),by omega,(gz aqx ot)⟩ (by omega) (.cons Z (.cons Z (.cons Z (.cons Z (.cons Z (.cons Z (.cons Z (.cons Z (.cons Z (.cons (by rw [a1];rfl) (.cons (B6 Z (by rw [aR])) (eS Z Z Z))))))))))))
    · refine ej<|ei<|eU<|eh<|br<|aK rfl<|va rfl<|bH rfl<|ht rfl rfl rfl<| ?_
      have nN:k=(far a b).toNat:=by omega
      subst nN;exact ⟨ct,co,Z,bW,jW⟩
  · have ry:=iG (b.x - a.x)
    have nP:=iG (b.y - a.y);have ia:far a b=cf (b.x - a.x):=by unfold far;omega
    have JI:uh a b=cf (b.y - a.y):=by unfold uh;omega
    have Jw:decide (cf (b.x - a.x)<cf (b.y - a.y))=false:=by exact aNu S1
    refine bE<|aF<| ?_;have ag:=ag.later iu;refine aa (aB Z (ag.all b2 bs))<|b_ (e:= 98) (cs:= [γ a.x,γ a.y]) Z (λ _=>by kernel_rfl) Z λ Wb Rg kx auf aiZ=> ?_;have A':=J ke kx;refine aT Z<|aF<|aT Z<|aI<|aK Z<|vm Z<|aJ<|bT<| ?_;have ag:=ag.later kx;have avo:∀ q∈Φ.ab (a_ Rg),Rg≤q:=λ q I=>aOT (aMZ.1 I).symm;refine gi (λ cJ cu aV=>∃ k:Nat,∃ ct:Option Addr,∃ co:Nat,cu= [(2, .pointer (a_ bx)),(4, .slice none 0 0),(5,γ 0),(6,γ (iD (b.x - a.x))),(7,γ (cf (b.x - a.x))),(8,γ (iD (b.y - a.y))),(9,γ (cf (b.y - a.y))),(10,γ (cf (b.x - a.x))),(11,γ (cf (b.y - a.y))),(12, .slice ct ((rS a b k).length) co),(13,γ ((dh a b k).1)),(50,γ (cf (b.x - a.x))),(51,γ (k:Int))]∧cJ=(cf (b.x - a.x)).toNat - k∧Ext w aV∧aO aV bx [γ ((dh a b k).2.x),γ ((dh a b k).2.y)] 98 (0,0)∧ai.rep.aM 98 16 aV w.heap.size (Φ.ab ct) ct co (rS a b k)∧((k:Int)≤cf (b.x - a.x))∧(∀ q∈Φ.ab ct,q=bx→False)) _ _ ⟨0,some ⟨Rg,0,none⟩,1,Z,Z,A',ag,(aO.Ky (R:=ai.rep) (by_:=16) (B:=w.heap.size) (k:= [a]) aiZ [[γ a.x,γ a.y]] Z ⟨⟨Z,cI.2 (by omega),cI.2 (by omega)⟩,trivial⟩ (by simp) (by simp) (by decide) (by omega)),(by have:=iG (b.y - a.y);have:=iG (b.x - a.x);omega),(λ q I af=>by (have:=avo q I;omega))⟩ (.cons Z (.cons Z (.cons Z (.cons Z (.cons Z (.cons Z (.cons Z (.cons Z (.cons Z (.cons Z (.cons (rE Z) (eS Z Z Z)))))))))))) ?_;rintro yM aDz VX ⟨k,ct,co,rfl,rfl,ET,gO,bW,aj,De⟩;have aJ5:=gO.lt;have af:=aeL a b k;have hp:=aeM a b k;have gh:=G6 (b.x - a.x);have iN:=G6 (b.y - a.y);have ry:=iG (b.x - a.x);have nP:=iG (b.y - a.y);have tX:=Eo a b k;refine aF<|fB Z Z<|aJ<|aI<| ?_;refine fH Z (λ aqY=> ?_) (λ aqY=> ?_)
    · refine bE<|aI<|bT<|aK rfl<|vm rfl<|aa (zM rfl rfl fP)<|fl rfl rfl<|aT rfl<|aK rfl<|vm rfl<|aa (ld rfl rfl)<|aT rfl<|aI<|aF<| ?_
      refine vm Z<|aJ<| ?_;refine Dc Z (λ eE=> ?_) (λ eE=> ?_)
      · rw [ia] at af
        have Dz:decide (cf (b.x - a.x)≤((dh a b k).1)+(2 * (cf (b.y - a.y))))=true:=by exact aNp eE
        refine rg<|vm Z<|vm Z<|aa (zM Z Z fP)<|aa (iM Z Z fP)<|aT Z<|aI<|aK Z<|vm Z<|aa (ld Z Z)<|vm Z<|fS Z Z<|aa (gv Z Z Z Z)<|aJ<| ?_;have aqZ:((decide (cf (b.y - a.y)≤cf (b.x - a.x))) || (decide (cf (b.x - a.x)≤((dh a b k).1)+(2 * (cf (b.y - a.y))))))=true:=by simp only [aNG,aM8];omega
        refine gZ (by rw [← aqZ];rfl)<|rg<|aa (au hE Z)<|bA Z gO a6 Z<|vm Z<|fl Z Z<|aa (au hE Z)<|fM Z Z gO Z cr Z Z λ PB wL gO=> ?_;have:=wL.size;have A4:=Ext.mod ET wL bF;refine aJ<|aI<|aK Z<|vm Z<|aa (hO Z Z)<|vm Z<|fS Z Z<|aa (gv Z Z Z Z)<|aJ<| ?_;have aq0:((decide (cf (b.x - a.x)<cf (b.y - a.y))) || (decide (cf (b.x - a.x)≤((dh a b k).1)+(2 * (cf (b.y - a.y))))))=true:=by simp only [aNG,aM8];omega
        refine gZ (by rw [← aq0];rfl)<|rg<|aa (au hG Z)<|bA Z gO a6 Z<|vm Z<|fl Z Z<|aa (au hG Z)<|fM Z Z gO Z cr Z Z λ aLD Uz gO=> ?_;have:=Uz.size;have aB7:=Ext.mod A4 Uz bF;refine aJ<|rg<|vm Z<|aa (aB Z (gO.all b2 bs))<|b_ (e:= 98) (cs:= [γ (((dh a b k).2.x)+(iD (b.x - a.x))),γ (((dh a b k).2.y)+(iD (b.y - a.y)))]) Z (λ _=>by kernel_rfl) Z λ aLF aEt Wj aH1 Xg=> ?_;have ahS:=J aB7 Wj;have aKb:=Xg.lt;have bW:=((bW.mod wL (c2 De)).mod Uz (c2 De)).later Wj;refine ap LP Φ.c6 bW (aO.fy (R:=ai.rep) (by_:=16) (q:=(⟨((dh a b k).2.x)+(iD (b.x - a.x)),((dh a b k).2.y)+(iD (b.y - a.y))⟩:ai)) Xg ⟨Z,⟨gl,gl⟩⟩ (by decide)) Z Z (by simp only [aM1,aM5];omega) (by simp only [aM1,aM5];omega) ahS.size Z λ aAU aiw amh D8 akq aqt aJd=> ?_;have Ww:=Ext.mod ahS D8 (λ q I=>(bW.lt q I).1);refine va Z<|nl<|cl<|eR Z Z Z<| ?_;have aR:dh a b (k+1)=((((dh a b k).1)+(2 * (cf (b.y - a.y)))) - (2 * (cf (b.x - a.x))),⟨((dh a b k).2.x)+(iD (b.x - a.x)),((dh a b k).2.y)+(iD (b.y - a.y))⟩):=by
          show oN a b (dh a b k)=_;unfold oN;simp only [ia,JI,Jw,Dz,aOB,aOm,aQD,aQC,aQo,aPP,aNR,aPJ,aPx,aPa,aQd]
        have a1:=O5 a b k;rw [aR] at a1;have cL:(rS a b (k+1)).length=k+2:=Eo a b (k+1);have gO:=(gO.later Wj).mod D8 (λ I=>De _ I rfl);exact lT _ _ ⟨k+1,aiw,amh,Z,Z,Ww,(by rw [aR];exact gO),(by rw [a1];exact akq),by omega,(gz aqt De)⟩ (by omega) (.cons Z (.cons Z (.cons Z (.cons Z (.cons Z (.cons Z (.cons Z (.cons Z (.cons Z (.cons (by rw [a1];rfl) (.cons (B6 Z (by rw [aR])) (eS Z Z Z))))))))))))
      · rw [ia] at af
        have Dz:decide (cf (b.x - a.x)≤((dh a b k).1)+(2 * (cf (b.y - a.y))))=false:=by exact aNu eE
        refine bE<|aI<|aK Z<|vm Z<|aa (ld Z Z)<|vm Z<|fS Z Z<|aa (gv Z Z Z Z)<|aJ<| ?_;have aq1:((decide (cf (b.y - a.y)≤cf (b.x - a.x))) || (decide (cf (b.x - a.x)≤((dh a b k).1)+(2 * (cf (b.y - a.y))))))=true:=by simp only [aNG,aM8];omega
        refine gZ (by rw [← aq1];rfl)<|rg<|aa (au hE Z)<|bA Z gO a6 Z<|vm Z<|fl Z Z<|aa (au hE Z)<|fM Z Z gO Z cr Z Z λ aAY yP gO=> ?_;have:=yP.size;have WA:=Ext.mod ET yP bF;refine aJ<|aI<|aK Z<|vm Z<|aa (hO Z Z)<|vm Z<|fS Z Z<|aa (gv Z Z Z Z)<|aJ<| ?_;have aq2:((decide (cf (b.x - a.x)<cf (b.y - a.y))) || (decide (cf (b.x - a.x)≤((dh a b k).1)+(2 * (cf (b.y - a.y))))))=false:=by simp only [aNO,aM7];omega
        refine hP (by rw [← aq2];rfl)<|bE<|rg<|vm Z<|aa (aB Z (gO.all b2 bs))<|b_ (e:= 98) (cs:= [γ (((dh a b k).2.x)+(iD (b.x - a.x))),γ ((dh a b k).2.y)]) Z (λ _=>by kernel_rfl) Z λ V1 aEx xA aH7 Xk=> ?_;have Ht:=J WA xA;have aKg:=Xk.lt;have bW:=(bW.mod yP (c2 De)).later xA;refine ap LP Φ.c6 bW (aO.fy (R:=ai.rep) (by_:=16) (q:=(⟨((dh a b k).2.x)+(iD (b.x - a.x)),(dh a b k).2.y⟩:ai)) Xk ⟨Z,⟨gl,gl⟩⟩ (by decide)) Z Z (by simp only [aM1,aM5];omega) (by simp only [aM1,aM5];omega) Ht.size Z λ aA0 aiz amj aeO akr aqu aJg=> ?_;have WC:=Ext.mod Ht aeO (λ q I=>(bW.lt q I).1);refine va Z<|nl<|cl<|eR Z Z Z<| ?_;have aR:dh a b (k+1)=(((dh a b k).1)+(2 * (cf (b.y - a.y))),⟨((dh a b k).2.x)+(iD (b.x - a.x)),(dh a b k).2.y⟩):=by
          show oN a b (dh a b k)=_;unfold oN;simp only [ia,JI,Jw,Dz,aOB,aOm,aQD,aQC,aQo,aPP,aNR,aPJ,aPx,aPa,aQd]
        have a1:=O5 a b k;rw [aR] at a1;have cL:(rS a b (k+1)).length=k+2:=Eo a b (k+1);have gO:=(gO.later xA).mod aeO (λ I=>De _ I rfl);exact lT _ _ ⟨k+1,aiz,amj,Z,Z,WC,(by rw [aR];exact gO),(by rw [a1];exact akr),by omega,(gz aqu De)⟩ (by omega) (.cons Z (.cons Z (.cons Z (.cons Z (.cons Z (.cons Z (.cons Z (.cons Z (.cons Z (.cons (by rw [a1];rfl) (.cons (B6 Z (by rw [aR])) (eS Z Z Z))))))))))))
    · refine ej<|ei<|eU<|eh<|br<|aK rfl<|va rfl<|bH rfl<|ht rfl rfl rfl<| ?_
      have nN:k=(far a b).toNat:=by omega
      subst nN;exact ⟨ct,co,Z,bW,ET⟩
section
def sw (p:Int):Int:=if p=0∨p=3 then 2 else if p=2 then 3 else 0
def tE (p:Int):Int:=if p=0∨p=3 then 0 else if p=2 then 0 else if p=1 then 9 else 1
def dH (c:ai):List ai:= [⟨c.x,c.y - 1⟩,⟨c.x - 1,c.y⟩,⟨c.x+1,c.y⟩,⟨c.x,c.y+1⟩]
namespace av
section
variable {f:av} {c d x y b:ai} {l far:List Int} {v:Int}
def fk (f:av) (c:ai):Int:=if f.place c=2 then 3 else 2
def cD (f:av) (c:ai):List ai:=(dH c).filter f.ground
def at_ (f:av) (c:ai):Nat:=(c.y * f.wide+c.x).toNat
def ao (f:av) (far:List Int) (c:ai):Int:=if f.dV c then far.getD (f.at_ c) (-1) else -1
def iZ (b c:ai):Int:=2 * (cf (b.x - c.x)+cf (b.y - c.y))
theorem BL (h:f.ground c=true):f.place c≠1:=by unfold ground at h;rw [aNa] at h;simpa using h.2
theorem aaZ (h:f.dV c=true) (τ:f.place c≠1):f.ground c=true:=by unfold ground;rw [h];simpa using τ
theorem mY:2≤f.fk c∧f.fk c≤3:=by unfold fk;split<;>omega
theorem Ei:y∈f.cD x↔y∈dH x∧f.ground y=true:=by unfold cD;rw [aOk]
theorem UF:y∈dH x↔(y=⟨x.x,x.y - 1⟩∨y=⟨x.x - 1,x.y⟩∨y=⟨x.x+1,x.y⟩∨y=⟨x.x,x.y+1⟩):=by unfold dH;simp
theorem G7 (h:y∈dH x):x∈dH y:=by
 rw [UF] at h ⊢;obtain ⟨a,b⟩:=x;rcases h with rfl | rfl | rfl | rfl
 ·right;right;right;simp
 ·right;right;left;simp
 ·right;left;simp
 ·left;simp
theorem azt (h:y∈dH x):y≠x:=by
 rw [UF] at h;obtain ⟨a,b⟩:=x;rcases h with rfl | rfl | rfl | rfl<;>simp<;>omega
theorem Nn (b:ai) (h:y∈dH x):iZ b x≤2+iZ b y:=by
 rw [UF] at h;obtain ⟨fo,fU⟩:=x;have e:∀ n:Int,cf n≤1+cf (n+1)∧cf n≤1+cf (n - 1):=λ n=>by
  have κ:=iG n;have τ:=iG (n+1);have aq:=iG (n - 1);rcases (show n<0∨0≤n by omega) with hn | hn
  ·have:=κ.2.2.2 hn;rcases (show n+1<0∨0≤n+1 by omega) with hm | hm
   ·have:=τ.2.2.2 hm;have:=aq.2.2.2 (by omega);omega
   ·have:=τ.2.2.1 hm;have:=aq.2.2.2 (by omega);omega
  ·have:=κ.2.2.1 hn;have:=τ.2.2.1 (by omega);rcases (show n - 1<0∨0≤n - 1 by omega) with hm | hm
   ·have:=aq.2.2.2 hm;omega
   ·have:=aq.2.2.1 hm;omega
 unfold iZ;rcases h with rfl | rfl | rfl | rfl<;>dsimp only
 ·have:=(e (b.y - fU)).1;rw [show b.y - (fU - 1)=b.y - fU+1 by omega];omega
 ·have:=(e (b.x - fo)).1;rw [show b.x - (fo - 1)=b.x - fo+1 by omega];omega
 ·have:=(e (b.x - fo)).2;rw [show b.x - (fo+1)=b.x - fo - 1 by omega];omega
 ·have:=(e (b.y - fU)).2;rw [show b.y - (fU+1)=b.y - fU - 1 by omega];omega
theorem aao (b c:ai):0≤iZ b c:=by have:=iG (b.x - c.x);have:=iG (b.y - c.y);unfold iZ;omega
theorem Sa (b:ai):iZ b b=0:=by unfold iZ;rw [aQz,aQz];rfl
theorem OW (f:av) (b:ai):l_.l' f.cD f.fk (iZ b):=⟨λ x y _=>by have:=f.mY (c:=y);omega,aao b,λ x y aH=>by
 have:=Nn b (Ei.1 aH).1;have:=f.mY (c:=y);omega⟩
theorem UQ (f:av):l_.l' f.cD f.fk (λ _=>0):=⟨λ x y _=>by have:=f.mY (c:=y);omega,λ _=>aOn 0,λ x y aH=>by have:=f.mY (c:=y);omega⟩
theorem Yi (hf:f.a7=0) (hc:f.dV c=true) (hd:f.dV d=true) (h:f.at_ c=f.at_ d):c=d:=by
 obtain ⟨a0,di,a2,a3,a4,a5⟩:=idx hf hc;obtain ⟨yb,q7,fe,gJ,C_,Mv⟩:=idx hf hd;unfold at_ at h;have e:c.y * f.wide+c.x=d.y * f.wide+d.x:=by omega
 have aR:(c.y * f.wide+c.x) % f.wide=c.x:=by rw [aQB,aPA,aQA a2 a3]
 have a1:(d.y * f.wide+d.x) % f.wide=d.x:=by rw [aQB,aPA,aQA fe gJ]
 have ex:c.x=d.x:=by rw [← aR,← a1,e]
 have Nq:c.y * f.wide=d.y * f.wide:=by omega
 have Nq:c.y=d.y:=Int.eq_of_mul_eq_mul_right (by omega) Nq;cases c;cases d;simp at ex Nq;rw [ex,Nq]
theorem ya (hf:f.a7=0) (hc:f.dV c=true):f.at_ c<f.places.length∧((f.at_ c:Nat):Int)=c.y * f.wide+c.x:=by
 obtain ⟨a0,di,_⟩:=idx hf hc;unfold at_;omega
theorem FZ (hc:f.dV c=true):f.ao far c=far.getD (f.at_ c) (-1):=by unfold ao;rw [aNd hc]
theorem Dt (hc:f.dV c=false):f.ao far c= -1:=by unfold ao;rw [aM4 (by rw [hc];decide)]
theorem Sl (h:0≤f.ao far c):f.dV c=true:=by
 cases hc:f.dV c with
 | true=>rfl
 | false=>rw [Dt hc] at h;omega
theorem NA (hf:f.a7=0) (ay:far.length=f.places.length) (hc:f.dV c=true):f.ao (far.set (f.at_ c) v) c=v:=by
 rw [FZ hc,aM0,aNL (by rw [ay];exact (ya hf hc).1)];rfl
theorem NB (hf:f.a7=0) (hc:f.dV c=true) (dF:d≠c):f.ao (far.set (f.at_ c) v) d=f.ao far d:=by
 cases hd:f.dV d with
 | false=>rw [Dt hd,Dt hd]
 | true=>rw [FZ hd,FZ hd,aM0,aM0,aN4 (λ e=>dF (Yi hf hd hc e.symm))]
end
end av
def und:List Int→Nat
 | []=>0
 | x::r=>(if x<0 then 1 else 0)+und r
theorem ahc:∀ l:List Int,und l≤l.length
 | []=>aNk _
 | x::r=>by have:=ahc r;rw [und,aM1];split<;>omega
theorem ahd {v:Int} (hv:0≤v):∀ (l:List Int) (i:Nat),i<l.length→l.getD i (-1)<0→und (l.set i v)+1=und l
 | [],i,h,_=>by simp at h
 | x::r,0,_,h=>by
  have h:x<0:=h;rw [aOV,und,und,aM4 (by omega),aNd h];omega
 | x::r,i+1,h,τ=>by
  have:=ahd hv r i (by simpa using h) (by simpa using τ);rw [aPd,und,und];omega
theorem VS {n:Nat}:und (List.replicate n (-1))=n:=by
 induction n with
 | zero=>rfl
 | succ n bu=>rw [aPv,und,bu];simp;omega
structure h' {β:Type} [Inhabited β] (gq:β→ai) (au iB:β→Int) (f:av) (h:ai→Int) (src:ai→Prop) (far:List Int) (l:List β) (cX:ai) (rest:List ai):Prop where
 len:far.length=f.places.length
 inv:l_.Inv f.cD f.fk h src (f.ao far) (l.map λ n=>(gq n,au n)) cX rest
 hp:cm.Heap iB l.length l
 all:∀ n∈l,iB n=au n+h (gq n)∧f.ground (gq n)=true
 gR:∀ c,f.ao far c+3 * (und far:Int)≤3 * (f.places.length:Int)
 gr:∀ c,0≤f.ao far c→f.ground c=true
section
variable {β:Type} [Inhabited β] {gq:β→ai} {au iB:β→Int} {f:av} {h:ai→Int} {src:ai→Prop} {far:List Int} {l:List β} {cX y:ai} {rest:List ai} {n:β} {j:Nat}
theorem h'.aap (s:h' gq au iB f h src far l cX rest) (o:l_.l' f.cD f.fk h) (hn:n∈l):0≤au n∧au n+3 * (und far:Int)≤3 * (f.places.length:Int)+3:=by
 have hm:(gq n,au n)∈l.map λ n=>(gq n,au n):=aNn.2 ⟨n,hn,rfl⟩;have hr:=s.inv.afY hm;refine ⟨hr.yS o, ?_⟩;have hu:=ahc far;have:=s.len;rcases s.inv.q _ hm with ⟨_,τ⟩ | ⟨p,κ,τ,aq⟩
 ·have τ:au n=0:=τ;omega
 ·have aq:au n=f.ao far p+f.fk (gq n):=aq;have:=s.gR p;have:=f.mY (c:=gq n);omega
theorem h'.afv (aC:0<l.length):(l.map λ n=>(gq n,au n)).Perm ((gq (l.getD 0 default),au (l.getD 0 default))::(cm.nh iB l).map λ n=>(gq n,au n)):=
 ((cm.afG (key:=iB) aC).symm.map _)
theorem h'.least (s:h' gq au iB f h src far l cX rest) (aC:0<l.length):∀ e∈l.map λ n=>(gq n,au n),au (l.getD 0 default)+h (gq (l.getD 0 default))≤e.2+h e.1:=by
 intro e he;obtain ⟨n,hn,rfl⟩:=aNn.1 he;have κ:=s.hp.least n hn;rw [(s.all n hn).1,(s.all _ (mr aC)).1] at κ;exact κ
theorem h'.sub (aC:0<l.length) (hn:n∈cm.nh iB l):n∈l:=(cm.afG (key:=iB) aC).subset (aNe _ hn)
theorem h'.azv (s:h' gq au iB f h src far l cX []) (aC:0<l.length) (hd:0≤f.ao far (gq (l.getD 0 default))):h' gq au iB f h src far (cm.nh iB l) cX [] :=
 ⟨s.len,s.inv.axO (h'.afv aC) hd,cm.afF s.hp aC,λ n hn=>s.all n (h'.sub aC hn),s.gR,s.gr⟩
theorem h'.new (s:h' gq au iB f h src far l cX []) (hf:f.a7=0) (o:l_.l' f.cD f.fk h) (aC:0<l.length) (hd:f.ao far (gq (l.getD 0 default))<0):
  h' gq au iB f h src (far.set (f.at_ (gq (l.getD 0 default))) (au (l.getD 0 default))) (cm.nh iB l) (gq (l.getD 0 default)) (f.cD (gq (l.getD 0 default)))∧und (far.set (f.at_ (gq (l.getD 0 default))) (au (l.getD 0 default)))+1=und far:=by
 have aU:=(s.all _ (mr aC (d:=default))).2;have ak:=av.jr aU;have af:=s.aap o (mr aC (d:=default));have hu:und (far.set (f.at_ (gq (l.getD 0 default))) (au (l.getD 0 default)))+1=und far:=ahd af.1 far _ (by rw [s.len];exact (av.ya hf ak).1) (by rw [av.FZ ak] at hd;exact hd);refine ⟨⟨by rw [aNj];exact s.len,(s.inv.axN o (h'.afv aC) hd (s.least aC) (av.NA hf s.len ak) (λ z bo=>av.NB hf ak bo)).1,cm.afF s.hp aC,λ n hn=>s.all n (h'.sub aC hn),λ c=> ?_,λ c hc=> ?_⟩,hu⟩
 ·by_cases e:c=gq (l.getD 0 default)
  ·rw [e,av.NA hf s.len ak];omega
  ·rw [av.NB hf ak e];have:=s.gR c;omega
 ·by_cases e:c=gq (l.getD 0 default)
  ·rw [e];exact aU
  ·rw [av.NB hf ak e] at hc;exact s.gr c hc
theorem h'.push (s:h' gq au iB f h src far l cX (y::rest)) (o:l_.l' f.cD f.fk h) (aU:f.ground y=true) (κ:gq n=y) (τ:au n=f.ao far cX+f.fk y) (aq:iB n=au n+h y):h' gq au iB f h src far (cm.push iB l n) cX rest:=by
 refine ⟨s.len,s.inv.push o ?_,cm.ax4 s.hp,λ m hm=> ?_,s.gR,s.gr⟩
 ·have:=(cm.afK (key:=iB) (l:=l) (x:=n)).map λ n=>(gq n,au n);rw [aNF,κ,τ] at this;exact this
 ·rcases aNg.1 ((cm.afK (key:=iB)).subset hm) with rfl | hm
  ·rw [κ];exact ⟨aq,aU⟩
  ·exact s.all m hm
theorem h'.pass (s:h' gq au iB f h src far l cX (y::rest)) (aH:0≤f.ao far y):h' gq au iB f h src far l cX rest:=⟨s.len,s.inv.skip aH,s.hp,s.all,s.gR,s.gr⟩
theorem Vk {f:av} {x:ai} {j:Nat} (aw:j<4):((dH x).drop j).filter f.ground=if f.ground ((dH x).getD j default) then (dH x).getD j default::((dH x).drop (j+1)).filter f.ground else ((dH x).drop (j+1)).filter f.ground:=by
 have ay:(dH x).length=4:=rfl;rw [aNX (by omega),aN7,oz (by omega)]
theorem h'.avG (s:h' gq au iB f h src far l cX (((dH cX).drop j).filter f.ground)) (aw:j<4) (aU:f.ground ((dH cX).getD j default)=false):h' gq au iB f h src far l cX (((dH cX).drop (j+1)).filter f.ground):=by
 rw [Vk aw,aM4 (by rw [aU];decide)] at s;exact s
theorem h'.avE (s:h' gq au iB f h src far l cX (((dH cX).drop j).filter f.ground)) (aw:j<4) (aH:0≤f.ao far ((dH cX).getD j default)) (aU:f.ground ((dH cX).getD j default)=true):h' gq au iB f h src far l cX (((dH cX).drop (j+1)).filter f.ground):=by
 rw [Vk aw,aNd aU] at s;exact s.pass aH
theorem h'.avF (s:h' gq au iB f h src far l cX (((dH cX).drop j).filter f.ground)) (o:l_.l' f.cD f.fk h) (aw:j<4) (aU:f.ground ((dH cX).getD j default)=true) (κ:gq n=(dH cX).getD j default) (τ:au n=f.ao far cX+f.fk ((dH cX).getD j default)) (aq:iB n=au n+h ((dH cX).getD j default)):
  h' gq au iB f h src far (cm.push iB l n) cX (((dH cX).drop (j+1)).filter f.ground):=by
 rw [Vk aw,aNd aU] at s;exact s.push o aU κ τ aq
end
end
structure b5 where
 cell:ai
 far:Int
 all:Int
 deriving DecidableEq,Inhabited
namespace b5
def cells (a:b5):List Value:= [.int .i64 (a.cell.x), .int .i64 (a.cell.y), .int .i64 (a.far), .int .i64 (a.all)]
def ok (a:b5):Prop:=(Lit.int .i64 a.cell.x).wf=true∧(Lit.int .i64 a.cell.y).wf=true∧(Lit.int .i64 a.far).wf=true∧(Lit.int .i64 a.all).wf=true
def raw (j:Nat) (u:Value):Prop:=match j with
 | 0 | 1 | 2 | 3=>∃ n:Int,u= .int .i64 n
 | _=>True
theorem sv (a:b5):∀ (j:Nat) u,a.cells[j]? =some u→raw j u:=by
 intro j u hu
 match j,hu with
 | 0,hu | 1,hu | 2,hu | 3,hu=>exact ⟨_,(aNf hu).symm⟩
 | j+4,hu=>exact trivial
theorem su (a:b5):∀ u∈a.cells,u.oneCell'=true:=by
 intro u hu;unfold cells at hu;simp only [aNg,aOx,aPi] at hu;rcases hu with rfl | rfl | rfl | rfl<;>rfl
def rep:Φ b5:=Φ.flat 4 cells ok raw (λ _=>rfl) su sv
def zero:Value:= .agg #[.int .i64 0, .int .i64 0, .int .i64 0, .int .i64 0]
theorem k6:∀ (j:Nat) u,zero.cells[j]? =some u→rep.raw j u:=by
 intro j u hu;have hu:(#[(.int .i64 0:Value),(.int .i64 0:Value),(.int .i64 0:Value),(.int .i64 0:Value)]:Array Value)[j]? =some u:=hu
 match j,hu with
 | 0,hu | 1,hu | 2,hu | 3,hu=>exact ⟨_,(aNf hu).symm⟩
 | j+4,hu=>cases hu
theorem info:(prog.info? 225).map (λ i=>(i.zero,i.size,i.bytes))=some (some zero,4,32):=by kernel_rfl
def sh:hB:=(.cons (.cons (.int .i64) (.cons (.int .i64) .nil)) (.cons (.int .i64) (.cons (.int .i64) .nil)))
end b5
section
variable {c:ai}
abbrev q3 (f:av) (a b:ai) (far:List Int) (l:List b5) (cX:ai) (rest:List ai):Prop:=h' b5.cell b5.far b5.all f (av.iZ b) (λ c=>c=a) far l cX rest
def vI (f:av) (b:ai) (far:List Int):Prop:=0≤f.ao far b→∀ x,0≤f.ao far x→f.ao far x+av.iZ b x≤f.ao far b
structure mN (f:av) (a b:ai) (far:List Int):Prop where
 len:far.length=f.places.length
 spec:l_.Spec f.cD f.fk (av.iZ b) (λ c=>c=a) b (f.ao far)
 gR:∀ c,f.ao far c≤3 * (f.places.length:Int)
 gr:∀ c,0≤f.ao far c→f.ground c=true
section
variable {f:av} {a b cX:ai} {far:List Int} {l:List b5} {bI:b5} {rest:List ai}
theorem aAL (s:q3 f a b far l cX []) (hf:f.a7=0) (aC:0<l.length) (hx:l.getD 0 default=bI) (hd:f.ao far bI.cell<0) (hv:vI f b far) (hc:f.ao far b<0∨bI.all≤f.ao far b):vI f b (far.set (f.at_ bI.cell) bI.far):=by
 have hm:bI∈l:=by rw [← hx];exact mr aC
 obtain ⟨ha,aU⟩:=s.all bI hm;have ak:=av.jr aU;have κ:=av.NA (v:=bI.far) hf s.len ak;have τ:∀ z,z≠bI.cell→f.ao (far.set (f.at_ bI.cell) bI.far) z=f.ao far z:=λ z bo=>av.NB hf ak bo;have ab4:=λ z bo=>s.inv.mono z bo (bI.cell,bI.far) (aNn.2 ⟨bI,hm,rfl⟩);dsimp only at ab4;intro af z bo;by_cases e:b=bI.cell
 ·have apD:f.ao (far.set (f.at_ bI.cell) bI.far) b=bI.far:=by rw [e];exact κ
  rw [apD];have e0:av.iZ b bI.cell=0:=by rw [← e];exact av.Sa b
  by_cases IZ:z=bI.cell
  ·rw [IZ,κ];omega
  ·rw [τ z IZ] at bo ⊢;have:=ab4 z bo;omega
 ·rw [τ b e] at af ⊢;by_cases IZ:z=bI.cell
  ·rw [IZ,κ];omega
  ·rw [τ z IZ] at bo ⊢;exact hv af z bo
theorem afu (s:q3 f a b far l cX []) (hv:vI f b far) (he:(0≤f.ao far b∧∀ e∈l.map λ n=>(n.cell,n.far),f.ao far b<e.2+av.iZ b e.1)∨(l.map λ n=>(n.cell,n.far))= []):mN f a b far :=
 ⟨s.len,s.inv.ends (av.OW f b) (av.Sa b) hv he,λ c=>by have:=s.gR c;omega,s.gr⟩
theorem axE (s:q3 f a b far l cX []) (hv:vI f b far) (h:l.length=0):mN f a b far:=afu s hv (.inr (by rw [aNv h];rfl))
theorem axD (s:q3 f a b far l cX []) (hv:vI f b far) (aC:0<l.length) (af:0≤f.ao far b) (h:f.ao far b<(l.getD 0 default).all):mN f a b far :=
 afu s hv (.inl ⟨af,λ e he=>by
  have κ:=s.least aC e he;rw [← (s.all _ (mr aC)).1] at κ;omega⟩)
theorem q3.node (s:q3 f a b far l cX rest) (hf:f.a7=0) (af:f.dV b=true) (hn:bI∈l):0≤bI.cell.x∧bI.cell.x<f.wide∧0≤bI.cell.y∧bI.cell.y<f.high∧0≤bI.far∧bI.far≤4803∧0≤bI.all∧bI.all≤5000∧bI.ok:=by
 obtain ⟨ha,aU⟩:=s.all bI hn;obtain ⟨_,_,i1,i2,i3,i4⟩:=av.idx hf (av.jr aU);obtain ⟨_,_,aHu,Ud,aHv,aHw⟩:=av.idx hf af;obtain ⟨g1,g2,g3,g4,g5,g6⟩:=av.hg hf;obtain ⟨κ,τ⟩:=s.aap (av.OW f b) hn;have ay:=av.kr hf;have he:0≤av.iZ b bI.cell∧av.iZ b bI.cell≤160:=by
  refine ⟨av.aao _ _, ?_⟩;unfold av.iZ;have di:=iG (b.x - bI.cell.x);have a2:=iG (b.y - bI.cell.y);rcases (show b.x - bI.cell.x<0∨0≤b.x - bI.cell.x by omega) with h | h
  ·have:=di.2.2.2 h;rcases (show b.y - bI.cell.y<0∨0≤b.y - bI.cell.y by omega) with cp | cp
   ·have:=a2.2.2.2 cp;omega
   ·have:=a2.2.2.1 cp;omega
  ·have:=di.2.2.1 h;rcases (show b.y - bI.cell.y<0∨0≤b.y - bI.cell.y by omega) with cp | cp
   ·have:=a2.2.2.2 cp;omega
   ·have:=a2.2.2.1 cp;omega
 refine ⟨i1,i2,i3,i4,κ,by omega,by omega,by omega,cI.2 (by omega),cI.2 (by omega),cI.2 (by omega),cI.2 (by omega)⟩
theorem z7 (hf:f.a7=0) (ay:far.length=f.places.length) (hc:f.dV c=true):far[(c.y * f.wide+c.x).toNat]? =some (f.ao far c):=by
 rw [av.FZ hc];exact cj (u:= -1) (show f.at_ c<far.length by rw [ay];exact (av.ya hf hc).1)
theorem i' (hf:f.a7=0) (ay:far.length=f.places.length) (hc:f.dV c=true):(c.y * f.wide+c.x).toNat<far.length∧0≤c.y * f.wide+c.x∧c.y * f.wide+c.x≤1600:=by
 have κ:=av.ya hf hc;obtain ⟨a0,di,_⟩:=av.idx hf hc;have:=av.kr hf;unfold av.at_ at κ;omega
theorem Yj (p q:Bool):p=false∨(p=true∧q=true)∨(p=true∧q=false):=by cases p<;>cases q<;>simp
end
end
section
section
variable {f:av} {a b c:ai} {far Nr:List Int} {ao:ai→Int}
noncomputable def cE (f:av) (a b:ai):ai→Int :=
 @dite _ (∃ far,mN f a b far) (Classical.propDecidable _) (λ h=>f.ao h.choose) λ _=>λ _=> -1
theorem mN.Ds (h:mN f a b far):f.ao far=cE f a b:=by
 have hex:∃ far,mN f a b far:=⟨far,h⟩;unfold cE;rw [dif_pos hex]
 funext x
 exact h.spec.uniq hex.choose_spec.spec x
theorem mN.get (h:mN f a b far) (hf:f.a7=0) {c:ai} (hc:f.dV c=true):far[(c.y * f.wide+c.x).toNat]? =some (cE f a b c):=by rw [← h.Ds];exact z7 hf h.len hc
theorem ax5 {β:Type} [Inhabited β] {key:β→Int} {x:β}:cm.push key [] x= [x]:=by
 unfold cm.push cm.o0;rw [aM4 (by simp)];rfl
theorem Nz {n:Nat}:f.ao (List.replicate n (-1)) c= -1:=by
 unfold av.ao;split
 ·rw [aM0,aOz];split<;>rfl
 ·rfl
theorem q3.start (hf:f.a7=0) (ha:f.ground a=true) (cX:ai):q3 f a b (List.replicate f.places.length (-1)) (cm.push b5.all [] ⟨a,0,0+av.iZ b a⟩) cX []:=by
 rw [ax5];refine ⟨aNz,l_.Inv.start (λ x=>Nz) (λ e he=> ?_) (λ s hs=> ?_),λ i aC κ=>by simp at κ;omega,λ n hn=> ?_,λ c=> ?_,λ c hc=>by rw [Nz] at hc;omega⟩
 ·rw [aNF,aOf,aMZ] at he;subst he;exact ⟨Z,Z⟩
 ·subst hs;exact aNo
 ·rw [aMZ.1 hn];exact ⟨Z,ha⟩
 ·rw [Nz,VS];omega
theorem vI.start:vI f b (List.replicate f.places.length (-1)):=λ h=>by rw [Nz] at h;omega
def kK (f:av) (ao:ai→Int) (c:ai):ai:=((dH c).find? λ n=>f.ground n && decide (0≤ao n) && decide (ao n+f.fk c=ao c)).getD c
def vO (f:av) (ao:ai→Int) (a:ai):Nat→ai→List ai
 | 0,c=> [c]
 | n+1,c=>if c=a then [c] else c::vO f ao a n (kK f ao c)
structure nC (f:av) (a:ai) (ao:ai→Int):Prop where
 zero:ao a=0
 pos:∀ c,0≤ao c→c≠a→∃ p,0≤ao p∧c∈f.cD p∧ao c=ao p+f.fk c
 gr:∀ c,0≤ao c→f.ground c=true
theorem nC.prev (h:nC f a ao) (hc:0≤ao c) (dF:c≠a):kK f ao c∈dH c∧f.ground (kK f ao c)=true∧0≤ao (kK f ao c)∧ao (kK f ao c)+f.fk c=ao c:=by
 obtain ⟨p,κ,τ,aq⟩:=h.pos c hc dF;have hp:p∈dH c:=av.G7 (av.Ei.1 τ).1;have Oc:(f.ground p && decide (0≤ao p) && decide (ao p+f.fk c=ao c))=true:=by
  rw [h.gr p κ,aNp κ,aNp aq.symm];rfl
 unfold kK;cases hf:(dH c).find? λ n=>f.ground n && decide (0≤ao n) && decide (ao n+f.fk c=ao c) with
 | none=>exact absurd Oc (aOl.1 hf p hp)
 | some q =>
  have I:=aPY hf;simp only [aNa,aM8] at I;exact ⟨aPG hf,I.1.1,I.1.2,I.2⟩
theorem nC.fuel (h:nC f a ao):∀ (n:Nat) (c:ai),0≤ao c→(ao c).toNat≤n→vO f ao a n c=vO f ao a (ao c).toNat c:=by
 intro n;induction n using Nat.strongRecOn with
 | ind n bu =>
  intro c hc hn;by_cases dF:c=a
  ·subst dF;have:(ao c).toNat=0:=by rw [h.zero];rfl
   rw [this];cases n with
   | zero=>rfl
   | succ n=>unfold vO;rw [aNd rfl]
  ·obtain ⟨nX,nc,mz,yU⟩:=h.prev hc dF;have aj:=f.mY (c:=c);obtain ⟨m,hm⟩:∃ m,(ao c).toNat=m+1:=⟨(ao c).toNat - 1,by omega⟩;obtain ⟨na,N_⟩:∃ na,n=na+1:=⟨n - 1,by omega⟩;subst N_;rw [hm,vO,vO,aM4 dF,aM4 dF,bu na (by omega) _ mz (by omega),bu m (by omega) _ mz (by omega)]
def fb (f:av) (ao:ai→Int) (a c:ai):List ai:=vO f ao a (ao c).toNat c
theorem AS (h:nC f a ao):fb f ao a a= [a]:=by unfold fb;rw [h.zero];rfl
theorem AT (h:nC f a ao) (hc:0≤ao c) (dF:c≠a):fb f ao a c=c::fb f ao a (kK f ao c):=by
 obtain ⟨nX,nc,mz,yU⟩:=h.prev hc dF;have aj:=f.mY (c:=c);unfold fb;obtain ⟨m,hm⟩:∃ m,(ao c).toNat=m+1:=⟨(ao c).toNat - 1,by omega⟩;rw [hm,vO,aM4 dF,h.fuel m _ mz (by omega)]
theorem nC.of (h:mN f a b far) (af:0≤f.ao far b):nC f a (f.ao far):=by
 have bo:0≤f.ao far a→f.ao far a=0:=λ aC=>by
  have:=(h.spec.nK a aC).1.2 0 (.start rfl);omega
 have key:∀ n:Nat,∀ c,0≤f.ao far c→(f.ao far c).toNat=n→0≤f.ao far a:=by
  intro n;induction n using Nat.strongRecOn with
  | ind n bu =>
   intro c hc hn;rcases h.spec.pred c hc with ⟨κ,_⟩ | ⟨p,κ,τ,aq⟩
   ·subst κ;exact hc
   ·have:=f.mY (c:=c);exact bu (f.ao far p).toNat (by omega) p κ Z
 have ha:=key _ b af rfl;refine ⟨bo ha,λ c hc dF=> ?_,h.gr⟩;rcases h.spec.pred c hc with ⟨κ,_⟩ | κ
 ·exact absurd κ dF
 ·exact κ
theorem nC.afj (h:mN f a b far) (af:0≤cE f a b b):nC f a (cE f a b):=by rw [← h.Ds] at af ⊢;exact nC.of h af
theorem mN.Yv (h:mN f a b far) (c:ai):cE f a b c≤3 * (f.places.length:Int):=by rw [← h.Ds];exact h.gR c
noncomputable def eI (f:av) (a b:ai):Int:=if f.cH a≠0 then f.cH a else if f.cH b≠0 then f.cH b else if f.place a=1∨f.place b=1 then 9 else if cE f a b b<0 then 6 else 0
noncomputable def iA (f:av) (a b:ai):Int:=if eI f a b=0 then cE f a b b else 0
noncomputable def cR (f:av) (a b:ai):List ai:=if eI f a b=0 then (fb f (cE f a b) a b).reverse else []
theorem apT (h:f.cH a≠0):eI f a b=f.cH a:=by unfold eI;rw [aNd h]
theorem apU (h:f.cH a=0) (τ:f.cH b≠0):eI f a b=f.cH b:=by unfold eI;rw [aM4 (by rw [h];simp),aNd τ]
theorem Mt (h:f.cH a=0):f.a7=0∧f.dV a=true:=by
 have hc:f.a7=0:=by
  by_cases hc:f.a7=0
  ·exact hc
  ·rw [(av.Mu hc).1] at h;exact h
 exact ⟨hc,ale hc h⟩
where
 ale {f:av} {c:ai} (h:f.a7=0) (he:f.cH c=0):f.dV c=true:=by
  cases ak:f.dV c with
  | true=>rfl
  | false=>rw [(av.It h ak).1] at he;omega
theorem apY (h:f.cH a=0) (τ:f.cH b=0) (aq:f.place a=1∨f.place b=1):eI f a b=9:=by unfold eI;rw [aM4 (by rw [h];simp),aM4 (by rw [τ];simp),aNd aq]
theorem apX (hf:f.a7=0) (ha:f.ground a=true) (af:f.ground b=true) (h:cE f a b b<0):eI f a b=6:=by
 unfold eI;rw [aM4 (by rw [(av.la hf (av.jr ha)).1];simp),aM4 (by rw [(av.la hf (av.jr af)).1];simp),aM4 (by rintro (κ | κ);exact av.BL ha κ;exact av.BL af κ),aNd h]
theorem Nt (hf:f.a7=0) (ha:f.ground a=true) (af:f.ground b=true) (h:0≤cE f a b b):eI f a b=0:=by
 unfold eI;rw [aM4 (by rw [(av.la hf (av.jr ha)).1];simp),aM4 (by rw [(av.la hf (av.jr af)).1];simp),aM4 (by rintro (κ | κ);exact av.BL ha κ;exact av.BL af κ),aM4 (by omega)]
theorem Sd (f:av) (a b:ai):(f.cH a≠0∧eI f a b=f.cH a)∨(f.cH a=0∧f.cH b≠0∧eI f a b=f.cH b)∨(f.cH a=0∧f.cH b=0∧(f.place a=1∨f.place b=1)∧eI f a b=9)∨(f.a7=0∧f.ground a=true∧f.ground b=true∧((cE f a b b<0∧eI f a b=6)∨(0≤cE f a b b∧eI f a b=0))):=by
 by_cases κ:f.cH a=0
 ·by_cases τ:f.cH b=0
  ·obtain ⟨hc,JU⟩:=Mt κ;obtain ⟨_,T_⟩:=Mt τ;by_cases aq:f.place a=1∨f.place b=1
   ·exact .inr (.inr (.inl ⟨κ,τ,aq,apY κ τ aq⟩))
   ·have ga:=av.aaZ JU (λ h=>aq (.inl h));have tM:=av.aaZ T_ (λ h=>aq (.inr h));refine .inr (.inr (.inr ⟨hc,ga,tM, ?_⟩));by_cases bb:cE f a b b<0
    ·exact .inl ⟨bb,apX hc ga tM bb⟩
    ·exact .inr ⟨by omega,Nt hc ga tM (by omega)⟩
  ·exact .inr (.inl ⟨κ,τ,apU κ τ⟩)
 ·exact .inl ⟨κ,apT κ⟩
end
end
structure dU where
 id:Int
 bg:ai
 deriving DecidableEq,Inhabited
namespace dU
def cells (a:dU):List Value:= [.int .i64 (a.id), .int .i64 (a.bg.x), .int .i64 (a.bg.y)]
def ok (a:dU):Prop:=(Lit.int .i64 a.id).wf=true∧(Lit.int .i64 a.bg.x).wf=true∧(Lit.int .i64 a.bg.y).wf=true
def raw (j:Nat) (u:Value):Prop:=match j with
 | 0 | 1 | 2=>∃ n:Int,u= .int .i64 n
 | _=>True
theorem sv (a:dU):∀ (j:Nat) u,a.cells[j]? =some u→raw j u:=by
 intro j u hu
 match j,hu with
 | 0,hu | 1,hu | 2,hu=>exact ⟨_,(aNf hu).symm⟩
 | j+3,hu=>exact trivial
theorem su (a:dU):∀ u∈a.cells,u.oneCell'=true:=by
 intro u hu;unfold cells at hu;simp only [aNg,aOx,aPi] at hu;rcases hu with rfl | rfl | rfl<;>rfl
def rep:Φ dU:=Φ.flat 3 cells ok raw (λ _=>rfl) su sv
def zero:Value:= .agg #[.int .i64 0, .int .i64 0, .int .i64 0]
theorem k6:∀ (j:Nat) u,zero.cells[j]? =some u→rep.raw j u:=by
 intro j u hu;have hu:(#[(.int .i64 0:Value),(.int .i64 0:Value),(.int .i64 0:Value)]:Array Value)[j]? =some u:=hu
 match j,hu with
 | 0,hu | 1,hu | 2,hu=>exact ⟨_,(aNf hu).symm⟩
 | j+3,hu=>cases hu
theorem info:(prog.info? 212).map (λ i=>(i.zero,i.size,i.bytes))=some (some zero,3,24):=by kernel_rfl
def sh:hB:=(.cons (.int .i64) (.cons (.cons (.int .i64) (.cons (.int .i64) .nil)) .nil))
end dU
theorem abB {w:World} {cs:List Value} {a:dU} (h:dU.rep.has w cs a):cs=a.cells:=aPs (show cs=a.cells∧a.ok from h)
section
open Go.RowKit Go.Maps
namespace ai
def key (c:ai):Value:= .agg #[.int .i64 c.x, .int .i64 c.y]
theorem laid:laidOutB prog=true:=by kernel_rfl
theorem at7 (x y:Int):(Value.agg #[.int .i64 x, .int .i64 y]).formed prog 98 =true:=by kernel_rfl
theorem auc:prog.keyType 98 =true:=by kernel_rfl
theorem aub:∃ n,prog.types.size+1=n+2:=by
 have:1≤prog.types.size:=by decide +kernel
 exact ⟨prog.types.size - 1,by omega⟩
theorem at6:prog.cellsOf 98 =2∧prog.cellsOf 3 =1:=by
 constructor<;>kernel_rfl
theorem aua (c:ai) (h:c.ok):∃ l,keyOf prog 98 (key c)=some l:=by
 obtain ⟨hx,aH⟩:=h;obtain ⟨n,hn⟩:=aub;unfold key keyOf;have hu:=underlying98;rw [hu];simp only [auc,at7,Bool.and_self,aOB,hn];have κ:prog.keyLits (n+2) 98 [.int .i64 c.x, .int .i64 c.y]=some [.int .i64 c.x, .int .i64 c.y]:=by
  simp [Program.keyLits,hu,underlying3,at6,hx,aH]
 exact ⟨.string (keyBytes [.int .i64 c.x, .int .i64 c.y]),by
  have e:(Value.agg #[.int .i64 c.x, .int .i64 c.y]).cells.toList= [.int .i64 c.x, .int .i64 c.y]:=rfl;rw [e,κ];rfl⟩
theorem yI:QN prog 98 key ok where
 keyed:=Keyed.of_law (Go.deep_law_laid laid (m:=100) (by decide) (by decide +kernel) (by kernel_rfl) (by kernel_rfl))
 lit:=aua
 inj:=by
  intro a b h;unfold key at h;injection h with h
  obtain ⟨x,y⟩:=a;obtain ⟨z,t⟩:=b;simp at h;simp [h]
end ai
end
section
open Go.RowKit Go.Maps
section
variable {w w':World} {b:Nat} {g:ai→Int} {S:List Nat} {x:ai} {st:Nat}
def C1 (w:World) (b:Nat) (l:List (ai×Int×Nat)) (kC:Nat) (g:ai→Int):Prop :=
 dx ai.key w b l kC∧(∀ e∈l,e.1.ok)∧(l.map (·.1)).Nodup∧∀ y,(dx.get l y).getD 0=g y
def j1 (w:World) (b:Nat) (g:ai→Int):Prop:=∃ l kC,C1 w b l kC g
def qZ (w:World) (b:Nat) (g:ai→Int) (x:ai) (st:Nat):Prop:=∃ l kC,C1 w b l kC g∧∃ (j:Nat) (v:Int),l[j]? =some (x,v,st)
theorem j1.lt (h:j1 w b g):b<w.heap.size:=by obtain ⟨l,c,h,_⟩:=h;exact h.lt
theorem C1.keep {l:List (ai×Int×Nat)} {kC:Nat} (h:C1 w b l kC g) (aj:w'.heap[b]? =w.heap[b]?):C1 w' b l kC g:=⟨h.1.keep aj,h.2⟩
theorem j1.keep (h:j1 w b g) (aj:w'.heap[b]? =w.heap[b]?):j1 w' b g:=by obtain ⟨l,c,h⟩:=h;exact ⟨l,c,h.keep aj⟩
theorem j1.later (h:j1 w b g) (x:Ext w w'):j1 w' b g:=h.keep (x.block b h.lt)
theorem j1.mod (h:j1 w b g) (m:Mod S w w') (hs:b∉S):j1 w' b g:=h.keep (m.block b h.lt hs)
theorem qZ.map (h:qZ w b g x st):j1 w b g:=by obtain ⟨l,c,h,_⟩:=h;exact ⟨l,c,h⟩
theorem qZ.lt (h:qZ w b g x st):b<w.heap.size:=h.map.lt
theorem qZ.keep (h:qZ w b g x st) (aj:w'.heap[b]? =w.heap[b]?):qZ w' b g x st:=by obtain ⟨l,c,h,τ⟩:=h;exact ⟨l,c,h.keep aj,τ⟩
theorem qZ.later (h:qZ w b g x st) (e:Ext w w'):qZ w' b g x st:=h.keep (e.block b h.lt)
theorem j1.of_nil (h:oh w b []):j1 w b λ _=>0:=by
 obtain ⟨es,c,κ,τ⟩:=h;have:es.toList= []:=by
  cases he:es.toList with
  | nil=>rfl
  | cons a r=>rw [he] at τ;exact τ.elim
 have e:es=#[]:=by apply aOr;simpa using this
 subst e;exact ⟨[],c,⟨by simpa using κ,by simp,by simp⟩,by simp,by simp,λ y=>rfl⟩
def oj (b:Nat) (g:ai→Int) (w w':World):Prop:=Mod [b] w w'∧(j1 w b g→j1 w' b g)
theorem oj.aP (h:Ext w w'):oj b g w w':=⟨Mod.aP h,λ k=>k.later h⟩
theorem oj.trans {aN cb:World} (h:oj b g w aN) (k:oj b g aN cb):oj b g w cb:=⟨h.1.trans k.1,λ q=>k.2 (h.2 q)⟩
theorem Vh {es:Array MapEntry} {clock:Nat}:Mod [b] w (ij w b es clock):=
 ⟨rfl,rfl,rfl,by rw [agr];exact aNk _,λ k _ hn=>KH (by simpa using hn)⟩
def rV (g:ai→Int) (x:ai) (v:Int):ai→Int:=λ y=>if y=x then v else g y
end
section
variable {w:World} {b:Nat} {l:List (ai×Int×Nat)} {clock:Nat} {g:ai→Int}
theorem aeV:prog.underlying 202 =some (.map 98 3):=by kernel_rfl
theorem avZ (h:j1 w b g) (x:ai) (hx:x.ok):(Instr.lookup 202 (.map (some b)) (ai.key x) false).run prog w= .ok (.int .i64 (g x)) w:=by
 obtain ⟨l,c,κ,τ,aq,bb⟩:=h;rw [← bb x];exact (dx.lookup ai.yI aeV (aQP w) κ τ aq x hx).1
theorem azH {l:List (ai×Int×Nat)} {j:Nat} {a:ai×Int×Nat} (hm:(l.map (·.2.2)).Nodup) (aw:l[j]? =some a):((l.map (dz ai.key)).toArray).findIdx? (λ y=>((y.born:Nat):Int)== ((a.2.2:Nat):Int))=some j:=by
 rw [aQ6];refine aQ1 (l:=l.map (dz ai.key)) (j:=j) (e0:=dz ai.key a) ?_ (by rw [aNt,aw];rfl);rw [aPz];exact hm
theorem avY (h:j1 w b g) (x:ai) (hx:x.ok):∃ (st:Nat) (w':World),(Instr.mapEntry 202 (.map (some b)) (ai.key x)).run prog w= .ok (.tuple #[.int .i64 (g x), .int .i64 (st:Int)]) w'∧Mod [b] w w'∧qZ w' b g x st:=by
 obtain ⟨l,clock,h,hw,hn,aU⟩:=h;obtain ⟨wI,rz⟩:=ai.yI.lit x hx;have af:=h.en;have bB:=h.lt;have aD:=aeV;have bo:=aQP;rcases dx.found ai.yI h hw x hx with ⟨κ,τ,aq⟩ | ⟨j,v0,n0,κ,τ⟩
 ·have N5:g x=0:=by rw [← aU x,τ];rfl
  have B1:dx.put l clock x 0=l++ [(x,0,clock)]:=by
   unfold dx.put;rw [aM4];intro ha;obtain ⟨a,ha,hd⟩:=aOh.1 ha;exact aq a ha (by simpa using hd)
  have ja:C1 (ij w b ((l++ [(x,0,clock)]).map (dz ai.key)).toArray (clock+1)) b (l++ [(x,0,clock)]) (clock+1) g:=by
   refine ⟨⟨Cn bB,λ a ha=> ?_, ?_⟩,λ a ha=> ?_, ?_,λ y=> ?_⟩
   ·rcases aNi.1 ha with ha | ha
    ·have:=h.born a ha;omega
    ·simp at ha;subst ha;simp
   ·rw [aNx,aNP];refine ⟨h.stamps,by simp,λ a ha c hc e=> ?_⟩;simp at hc;obtain ⟨y,aH,rfl⟩:=aNn.1 ha;have:=h.born y aH;omega
   ·rcases aNi.1 ha with ha | ha
    ·exact hw a ha
    ·simp at ha;subst ha;exact hx
   ·have:=dx.GH hn clock x 0;rw [B1] at this;exact this
   ·have:=dx.F2 l clock x y 0;rw [B1] at this;rw [this];by_cases e:y=x
    ·rw [aNd e,e,N5];rfl
    ·rw [aM4 e];exact aU y
  refine ⟨clock,_, ?_,Vh,⟨_,_,ja,l.length,0,by simp⟩⟩
  ·rw [N5];have:(l.map (dz ai.key)).toArray.push (⟨ai.key x, .int .i64 0,clock⟩:MapEntry)=((l++ [(x,0,clock)]).map (dz ai.key)).toArray:=by simp [dz]
   simp [Instr.mapEntry,aOc aD,aNU af,ai.yI.keyed.check w false rz,κ,bo,aOi _ af,Result.andThen,ij,Go.ChangeMaps.setBlock,goInt,dz]
 ·have N5:g x=v0:=by rw [← aU x,dx.jq hn τ];rfl
  have ja:C1 (ij w b (l.map (dz ai.key)).toArray clock) b l clock g:=⟨⟨Cn bB,h.born,h.stamps⟩,hw,hn,aU⟩;refine ⟨n0,_, ?_,Vh,⟨_,_,ja,j,v0,τ⟩⟩
  ·rw [N5];have aw:(l.map (dz ai.key)).toArray[j]? =some (dz ai.key (x,v0,n0)):=by simp [τ]
   have TW:(l.map (dz ai.key)).toArray.modify j (λ e=> {e with key:=ai.key x})=(l.map (dz ai.key)).toArray:=by
    apply aOr;rw [aO9,aO2 _ _ _ _ (by rw [aNt,τ];rfl)];exact aRk _ _ _ (by rw [aNt,τ];rfl)
   have TI:(dz ai.key (x,v0,n0)).key=ai.key x:=rfl;have Tp:(dz ai.key (x,v0,n0)).born=n0:=rfl;simp only [Instr.mapEntry,aNh,aOc aD,aNb,aNU af,ai.yI.keyed.check w false rz,κ,aw,aOH,aN2,TI,ai.yI.keyed.stays w rz,TW,aOi _ af,Tp,aNl];rfl
theorem av0 {st:Nat} {x:ai} (h:qZ w b g x st) (v:Int):∃ w',(Instr.entryStore 202 (.map (some b)) (.int .i64 (st:Int)) (.int .i64 v)).run prog w= .ok () w'∧Mod [b] w w'∧j1 w' b (rV g x v):=by
 obtain ⟨l,clock,⟨h,hw,hn,aU⟩,j,v0,τ⟩:=h;have af:=h.en;have bB:=h.lt;have eb:=azH (a:=(x,v0,st)) h.stamps τ;have oE:l.any (λ e=>decide (e.1=x))=true:=aOh.2 ⟨_,aNN τ,by simp⟩;have tY:dx.put l clock x v=l.set j (x,v,st):=by
  unfold dx.put;rw [aNd oE];refine aOI λ i=> ?_;rw [aNt];by_cases kY:j=i
  ·subst kY;rw [τ,aNL (aM2.1 τ).1];simp
  ·rw [aN4 kY];cases ak:l[i]? with
   | none=>rfl
   | some a =>
    have:a.1≠x:=by
     intro Aj;have aR:(l.map (·.1))[i]? =(l.map (·.1))[j]? :=by rw [aNt,aNt,ak,τ];simp [Aj]
     have:=(aQx (by simpa using (aM2.1 ak).1) hn).1 aR;exact kY this.symm
    simp [this]
 have JF:(l.map (dz ai.key)).toArray.modify j (λ e=> {e with val:=Value.int .i64 v})=((l.set j (x,v,st)).map (dz ai.key)).toArray:=by
  apply aOr;rw [aO9,aO2 _ _ _ _ (by rw [aNt,τ];rfl),aOW];rfl
 refine ⟨ij w b ((l.set j (x,v,st)).map (dz ai.key)).toArray clock, ?_,Vh,l.set j (x,v,st),clock,⟨Cn bB,λ a ha=> ?_, ?_⟩,λ a ha=> ?_, ?_,λ y=> ?_⟩
 ·rw [← JF];simp only [Instr.entryStore,aNh,aNU af,aNb,asInt,asIntOf,goInt,aNl];rw [eb];exact aOi _ af
 ·rcases aOG ha with ha | ha
  ·exact h.born a ha
  ·rw [ha];exact h.born (x,v0,st) (aNN τ)
 ·rw [aOW];have:(l.map (·.2.2)).set j st=l.map (·.2.2):=by
   obtain ⟨ry,nP⟩:=aM2.1 τ;have e:(l.map (·.2.2))[j]'(by simpa using ry)=st:=by rw [aQJ,nP]
   conv=>lhs;rw [← e]
   exact aOZ _
  rw [this];exact h.stamps
 ·rcases aOG ha with ha | ha
  ·exact hw a ha
  ·rw [ha];exact hw (x,v0,st) (aNN τ)
 ·have:=dx.GH hn clock x v;rw [tY] at this;exact this
 ·have:=dx.F2 l clock x y v;rw [tY] at this;rw [this];unfold rV;by_cases e:y=x
  ·rw [aNd e,aNd e];rfl
  ·rw [aM4 e,aM4 e];exact aU y
end
section
variable {n:Nat} {E cd:List (Nat×Value)} {a:Act} {w w' w0 aN:World} {Q:Exit→Act→World→Prop} {ops:Array Oper}
variable {d:Option Nat} {ty:TypeId} {pos:String} {aW:Array Edge} {aqy:Option (Nat×Bool)} {x y z m:Operand} {rest:List Oper} {r st:Nat} {g:ai→Int} {p:ai} {v:Int}
theorem Oy (h:j1 w r g) (aj:p.ok) (hx:ev E m=some (.map (some r))) (aH:ev E y=some (ai.key p)):
  cG prog E ⟨d, .lookup 202 m y false,ty,pos,aW,aqy⟩ w (.int .i64 (g p)) w:=λ n a ha=>by
 simp only [execOp,ha.ev hx,ha.ev aH,aNh,avZ h p aj,aNb,aNl]
theorem meC {d:Nat} (h:j1 w r g) (aj:p.ok) (hx:ev E m=some (.map (some r))) (aH:ev E y=some (ai.key p)) (hd:Nat.blt d n=true)
  (hK:∀ aN (st:Nat),Mod [r] w aN→qZ aN r g p st→bQ prog n ops Q rest ((d, .tuple #[.int .i64 (g p), .int .i64 (st:Int)])::E) aN):bQ prog n ops Q (⟨some d, .mapEntry 202 m y,ty,pos,aW,none⟩::rest) E w:=by
 obtain ⟨st,aN,κ,τ,aq⟩:=avY h p aj;refine im (w':=aN) (v:= .tuple #[.int .i64 (g p), .int .i64 (st:Int)]) (λ n a ha=> ?_) hd (hK _ st τ aq);simp only [execOp,ha.ev hx,ha.ev aH,aNh,κ,aNb,aNl]
theorem R_ (h:qZ w r g p st) (hx:ev E m=some (.map (some r))) (aH:ev E y=some (.int .i64 (st:Int))) (bo:ev E z=some (.int .i64 v))
  (hK:∀ aN,Mod [r] w aN→j1 aN r (rV g p v)→bQ prog n ops Q rest E aN):bQ prog n ops Q (⟨none, .entryStore 202 m y z,ty,pos,aW,none⟩::rest) E w:=by
 obtain ⟨aN,κ,τ,aq⟩:=av0 h v;refine us (w':=aN) (λ n a ha=> ?_) (hK _ τ aq);simp only [execOp,ha.ev hx,ha.ev aH,ha.ev bo,aNh,κ,aNb,aNl]
end
end
section
variable {k:Nat} {c:ai} {f:av} {l:List dU}
def ig (T:List a8) (c:ai):Int:=((T.countP λ t=>decide (t.spot=c):Nat):Int)
theorem OV (T:List a8) (c:ai):0≤ig T c∧ig T c≤(T.length:Int):=⟨aRx _,Int.ofNat_le.2 List.countP_le_length⟩
theorem aw5 (T:List a8) (t:a8):ig (T++ [t])=rV (ig T) t.spot (ig T t.spot+1):=by
 funext y
 unfold ig rV;rw [aQs,aQK,List.countP_nil];by_cases e:y=t.spot
 ·subst e;simp
 ·have e':¬ t.spot=y:=λ h=>e h.symm;rw [aM4 e];simp [e']
theorem azX {α:Type} {T:List α} {d:α} (h:k<T.length):T.take (k+1)=T.take k++ [T.getD k d]:=by
 rw [aRC,aM3 h,aM0,aM3 h];rfl
theorem aw6 {T:List a8} (h:k<T.length):ig (T.take (k+1))=rV (ig (T.take k)) (T.getD k default).spot (ig (T.take k) (T.getD k default).spot+1):=by
 rw [azX (d:=default) h,aw5]
theorem countP_split {T:List a8} (h:k<T.length) (t:a8) (c:ai):
  ((T.countP λ t=>decide (t.spot=c):Nat):Int)=(((T.take k).countP λ t=>decide (t.spot=c):Nat):Int)+(if (T.getD k default).spot=c then 1 else 0)+(((T.drop (k+1)).countP λ t=>decide (t.spot=c):Nat):Int)∧
  (((T.set k t).countP λ t=>decide (t.spot=c):Nat):Int)=(((T.take k).countP λ t=>decide (t.spot=c):Nat):Int)+(if t.spot=c then 1 else 0)+(((T.drop (k+1)).countP λ t=>decide (t.spot=c):Nat):Int):=by
 have e:T=T.take k++T.getD k default::T.drop (k+1):=by
  conv=>lhs;rw [← aRf k T,aNX h]
  rw [aM0,aM3 h];rfl
 constructor
 ·conv=>lhs;rw [e]
  rw [aQs,aQK];by_cases hc:(T.getD k default).spot=c<;>simp only [hc,aPJ,aPx,aOB,aOm]<;>simp<;>omega
 ·rw [aPf,aNd h,aQs,aQK];by_cases hc:t.spot=c<;>simp only [hc,aPJ,aPx,aOB,aOm]<;>simp<;>omega
theorem aw4 {T:List a8} (h:k<T.length) (t:a8):
  ig (T.set k t)=rV (rV (ig T) (T.getD k default).spot (ig T (T.getD k default).spot - 1)) t.spot (rV (ig T) (T.getD k default).spot (ig T (T.getD k default).spot - 1) t.spot+1):=by
 obtain ⟨A,D,hA,aS⟩:∃ A D:ai→Int,(∀ y,ig T y=A y+(if (T.getD k default).spot=y then 1 else 0)+D y)∧∀ y,ig (T.set k t) y=A y+(if t.spot=y then 1 else 0)+D y :=
  ⟨_,_,λ y=>(countP_split h t y).1,λ y=>(countP_split h t y).2⟩
 funext y
 unfold rV;rw [aS y,hA y,hA t.spot,hA (T.getD k default).spot];generalize (T.getD k default).spot=a;generalize t.spot=b;by_cases aR:y=b
 ·subst aR;by_cases a1:y=a
  ·subst a1;simp only [aOB,eq_self];omega
  ·have cL:¬ a=y:=λ h=>a1 h.symm;simp only [aOB,a1,cL,aOm];omega
 ·have iY:¬ b=y:=λ h=>aR h.symm;by_cases a1:y=a
  ·subst a1;simp only [aOB,aR,iY,aOm];omega
  ·have cL:¬ a=y:=λ h=>a1 h.symm;simp only [aR,a1,cL,iY,aOm]
theorem aAA {g:ai→Int} {n v:Int} {x:ai} (h:∀ y,0≤g y∧g y≤n) (κ: -1≤v) (τ:v≤n) (y:ai): -1≤rV g x v y∧rV g x v y≤n:=by
 unfold rV;have:=h y;split<;>omega
theorem aw3 {T:List a8}:0<ig T c↔∃ t∈T,t.spot=c:=by
 unfold ig;rw [Int.natCast_pos,List.countP_pos_iff];simp
def eo (l:List dU) (id:Int):Int:=hi (λ g=>g.id == id) l
theorem aqB (l:List dU) (id:Int):eo l id= -1∧(∀ g∈l,g.id≠id)∨∃ k,k<l.length∧eo l id=(k:Int)∧(l.getD k default).id=id∧∀ j,j<k→(l.getD j default).id≠id:=by
 rcases atA (λ g=>g.id == id) l with ⟨κ,τ⟩ | ⟨k,aj,κ,τ,aq⟩
 ·exact .inl ⟨κ,λ g aU=>by simpa using τ g aU⟩
 ·refine .inr ⟨k,aj,κ, ?_,λ j aw=> ?_⟩
  ·rw [aM0,aM3 aj];simpa using τ
  ·rw [aM0,aM3 (by omega)];simpa using aq j aw
noncomputable def step1 (f:av) (l:List dU) (T:List a8) (k:Nat):Option ai :=
 if eo l (T.getD k default).id<0 then none
 else if eI f (T.getD k default).spot (l.getD (eo l (T.getD k default).id).toNat default).bg≠0 then none
 else if (cR f (T.getD k default).spot (l.getD (eo l (T.getD k default).id).toNat default).bg).length<2 then none
 else if 0<ig T ((cR f (T.getD k default).spot (l.getD (eo l (T.getD k default).id).toNat default).bg).getD 1 default) then none
 else some ((cR f (T.getD k default).spot (l.getD (eo l (T.getD k default).id).toNat default).bg).getD 1 default)
def a8.bg (t:a8) (c:ai):a8:= {t with spot:=c}
noncomputable def iF (f:av) (l:List dU) (T:List a8):Nat→List a8×List Int
 | 0=>(T, [])
 | k+1=>match step1 f l (iF f l T k).1 k with
  | none=>iF f l T k
  | some c=>((iF f l T k).1.set k (((iF f l T k).1.getD k default).bg c),(iF f l T k).2++ [((iF f l T k).1.getD k default).id])
theorem G8 {T U:List a8} {M:List Int} (h:iF f l T k=(U,M)) (hs:step1 f l U k=none):iF f l T (k+1)=(U,M):=by
 show (match step1 f l (iF f l T k).1 k with | none=>_ | some c=>_)=_;rw [h];simp only [hs]
theorem G9 {T U:List a8} {M:List Int} (h:iF f l T k=(U,M)) (hs:step1 f l U k=some c):iF f l T (k+1)=(U.set k ((U.getD k default).bg c),M++ [(U.getD k default).id]):=by
 show (match step1 f l (iF f l T k).1 k with | none=>_ | some c=>_)=_;rw [h];simp only [hs]
theorem KM {f:av} {l:List dU} {T:List a8}:∀ k,(iF f l T k).1.length=T.length∧(iF f l T k).2.length≤k
 | 0=>⟨rfl,aNk _⟩
 | k+1=>by
  have bu:=KM (f:=f) (l:=l) (T:=T) k;cases hs:step1 f l (iF f l T k).1 k with
  | none=>rw [G8 rfl hs];exact ⟨bu.1,Nat.le_succ_of_le bu.2⟩
  | some c=>rw [G9 rfl hs];exact ⟨by rw [aNj];exact bu.1,by rw [aM6,aPl];omega⟩
noncomputable def ae.k2 (W:ae) (l:List dU):ae×List Int:=({W with ah:=(iF W.field l W.ah W.ah.length).1},(iF W.field l W.ah W.ah.length).2)
end
end Go.Proofs.YthlpmldmhakhaaaGreatDoor
