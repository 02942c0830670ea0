import Derived.Test.YthlpmldmhakhaaaGreatDoorClone
set_option linter.unusedVariables false
set_option linter.unusedSimpArgs false
set_option maxRecDepth 100000
set_option maxHeartbeats 4000000
open Go.RowKit
namespace Go.Proofs.YthlpmldmhakhaaaGreatDoor
open Tryz
abbrev aQS:=@bne_iff_ne
structure dc where
 kind:Int
 bf:Int
 spot:ai
 what:Int
 deriving DecidableEq,Inhabited
namespace dc
def cells (a:dc):List Value:= [.int .i64 (a.kind), .int .i64 (a.bf), .int .i64 (a.spot.x), .int .i64 (a.spot.y), .int .i64 (a.what)]
def ok (a:dc):Prop:=(Lit.int .i64 a.kind).wf=true∧(Lit.int .i64 a.bf).wf=true∧(Lit.int .i64 a.spot.x).wf=true∧(Lit.int .i64 a.spot.y).wf=true∧(Lit.int .i64 a.what).wf=true
def raw (j:Nat) (u:Value):Prop:=match j with
 | 0 | 1 | 2 | 3 | 4=>∃ n:Int,u= .int .i64 n
 | _=>True
theorem sv (a:dc):∀ (j:Nat) u,a.cells[j]? =some u→raw j u:=by
 intro j u hu
 match j,hu with
 | 0,hu | 1,hu | 2,hu | 3,hu | 4,hu=>exact ⟨_,(aNf hu).symm⟩
 | j+5,hu=>exact trivial
theorem su (a:dc):∀ u∈a.cells,u.oneCell'=true:=by
 intro u hu;unfold cells at hu;simp only [aNg,aOx,aPi] at hu;rcases hu with rfl | rfl | rfl | rfl | rfl<;>rfl
def rep:Φ dc:=Φ.flat 5 cells ok raw (λ _=>rfl) su sv
def zero:Value:= .agg #[.int .i64 0, .int .i64 0, .int .i64 0, .int .i64 0, .int .i64 0]
theorem k6:∀ (j:Nat) u,zero.cells[j]? =some u→rep.raw j u:=by
 intro j u hu;have hu:(#[(.int .i64 0:Value),(.int .i64 0:Value),(.int .i64 0:Value),(.int .i64 0:Value),(.int .i64 0:Value)]:Array Value)[j]? =some u:=hu
 match j,hu with
 | 0,hu | 1,hu | 2,hu | 3,hu | 4,hu=>exact ⟨_,(aNf hu).symm⟩
 | j+5,hu=>cases hu
theorem info:(prog.info? 191).map (λ i=>(i.zero,i.size,i.bytes))=some (some zero,5,40):=by kernel_rfl
def sh:hB:=(.cons (.int .i64) (.cons (.int .i64) (.cons (.cons (.int .i64) (.cons (.int .i64) .nil)) (.cons (.int .i64) .nil))))
end dc
theorem arA {w:World} {cs:List Value} {a:dc} (h:dc.rep.has w cs a):cs=a.cells:=aPs (show cs=a.cells∧a.ok from h)
section
variable {k:Nat} {V:ae} {t u:a8} {d:dc}
def beside (a b:ai):Bool:=cM b.x (a.x - 1) (a.x+1) && cM b.y (a.y - 1) (a.y+1)
namespace ae
def place (W:ae) (c:ai):Nat:=(c.y * W.field.wide+c.x).toNat
def pb (t:a8) (n:Int):a8:= {t with load:=t.load+n}
def mv (W:ae) (d:dc):Option ae :=
 match W.ah.findIdx? (gL d.bf) with
 | none=>none
 | some k =>
  let t:=W.ah.getD k default
  let m:=W.bY.getD (W.place d.spot) 0
  if t.kind == 1 && decide (t.load<5) && beside t.spot d.spot && W.field.dV d.spot && m != 0 then
   some {W with bY:=W.bY.set (W.place d.spot) (m - 1),ah:=W.ah.set k (pb t 1)}
  else none
def drop (W:ae) (d:dc):Option ae :=
 match W.ah.findIdx? (gL d.bf) with
 | none=>none
 | some k =>
  let t:=W.ah.getD k default
  let o:=t.owner.toNat
  let s:=W.bh.getD o 0
  let n:=min t.load (1000000 - s)
  if t.load != 0 && beside (W.bj.getD o default) t.spot && decide (0<n) then
   some {W with bh:=W.bh.set o (s+n),ah:=W.ah.set k (pb t (-n))}
  else none
def around (c:ai):List ai :=
 [c,⟨c.x - 1,c.y - 1⟩,⟨c.x,c.y - 1⟩,⟨c.x+1,c.y - 1⟩,⟨c.x - 1,c.y⟩,⟨c.x,c.y⟩,⟨c.x+1,c.y⟩,⟨c.x - 1,c.y+1⟩,⟨c.x,c.y+1⟩,⟨c.x+1,c.y+1⟩]
def Ch (W:ae) (c:ai):Bool:=W.field.ground c && !W.ah.any (py c)
def free (W:ae) (c:ai):Option ai:=(around c).find? W.Ch
def qi (W:ae) (d:dc):Option ae :=
 let s:=W.bh.getD d.bf.toNat 0
 if cM d.bf 0 ((W.bj.length:Int) - 1) && cM d.what 1 2 && decide (k1 d.what≤s) && decide (W.ah.length<100) && decide (W.next<1000000) then
  match W.free (W.bj.getD d.bf.toNat default) with
  | none=>none
  | some c=>some {W with ah:=W.ah++ [⟨W.next,d.bf,d.what,c,hj d.what,0⟩],next:=W.next+1,bh:=W.bh.set d.bf.toNat (s - k1 d.what)}
 else none
def kD (W:ae) (d:dc):Option ae:=if d.kind=1 then W.mv d else if d.kind=2 then W.drop d else if d.kind=3 then W.qi d else none
def g_ (W:ae):List dc→ae×List Bool
 | []=>(W, [])
 | d::l=>match W.kD d with
  | some V=>((V.g_ l).1,true::(V.g_ l).2)
  | none=>((W.g_ l).1,false::(W.g_ l).2)
end ae
theorem FX {l:List a8} {id:Int} (h:l.findIdx? (gL id)=some k):∃ t,l[k]? =some t∧t.id=id∧l.getD k default=t:=by
 obtain ⟨κ,τ,_⟩:=aPg.1 h;exact ⟨l[k],aM3 κ,by simpa [gL] using τ,by rw [aM0,aM3 κ];rfl⟩
theorem azE {W:ae} (pn:V.ah=W.ah.set k u) (aD:W.ah[k]? =some t) (hs:u.spot=t.spot) (i:Nat):V.iE i=W.iE i:=by
 unfold ae.iE;rw [pn,List.take_set,aOW];by_cases lh:k<i
 ·have κ:((W.ah.take i).map (·.spot))[k]? =some t.spot:=by rw [aNt,aNK,aNd lh,aD];rfl
  obtain ⟨τ,aq⟩:=aM2.1 κ;rw [hs,← aq];exact aOZ _
 ·rw [List.set_eq_of_length_le (by rw [aNI,aM9];omega)]
theorem auu {W:ae} (pn:V.ah=W.ah.set k u) (aD:W.ah[k]? =some t) (hs:u.id=t.id) (i:Nat):V.jc i=W.jc i:=by
 unfold ae.jc;by_cases ak:i=0
 ·rw [aNd ak,aNd ak]
 ·rw [aM4 ak,aM4 ak,pn,aM0,aM0];by_cases aj:k=i - 1
  ·subst aj;rw [aNL (aM2.1 aD).1,aD];exact hs
  ·rw [aN4 aj]
theorem Rc {W:ae} (pn:V.ah=W.ah.set k u) (aD:W.ah[k]? =some t) {i:Nat} {x:a8} (hx:V.ah[i]? =some x):(i=k∧x=u)∨(i≠k∧W.ah[i]? =some x):=by
 rw [pn] at hx;by_cases aj:k=i
 ·subst aj;rw [aNL (aM2.1 aD).1] at hx;exact .inl ⟨Z,(aNf hx).symm⟩
 ·rw [aN4 aj] at hx;exact .inr ⟨aPp aj,hx⟩
theorem Good.turned {W:ae} (h:Good W) {n:Int} (aD:W.ah[k]? =some t) (pn:V.ah=W.ah.set k (ae.pb t n)) (ay:0≤t.load+n∧t.load+n≤ae.Az t.kind)
  (hf:V.field=W.field) (af:V.bj=W.bj) (hn:V.next=W.next) (hw:V.now=W.now)
  (yF:V.bh.length=W.bh.length) (hs:∀ (i:Nat) s,V.bh[i]? =some s→0≤s∧s≤1000000)
  (N9:V.bY.length=W.bY.length) (hm:∀ (i:Nat) m,V.bY[i]? =some m→0≤m∧m≤1000000∧(m≤0∨W.field.places.getD i 0=3)):Good V:=by
 have κ:=h.ah k t aD;have hlen:V.ah.length=W.ah.length:=by rw [pn,aNj]
 refine ⟨by rw [hf];exact h.field,by rw [af];exact h.gX,by rw [hlen];exact h.dD,by rw [yF,af];exact h.sl, ?_,hs,by rw [N9,hf];exact h.Ej,by rw [hf];exact hm,λ i x hx=> ?_,λ i x hx=> ?_,λ i x hx=> ?_,by rw [hn];exact h.next,by rw [hw];exact h.now⟩
 ·rw [af,hf];exact h.bj
 ·rw [hf,af];rcases Rc pn aD hx with ⟨rfl,rfl⟩ | ⟨_,hx⟩
  ·exact ⟨κ.kind,κ.owner,κ.ground,κ.df,ay⟩
  ·exact h.ah i x hx
 ·rw [auu pn aD rfl,hn];rcases Rc pn aD hx with ⟨rfl,rfl⟩ | ⟨_,hx⟩
  ·exact h.ids i t aD
  ·exact h.ids i x hx
 ·rw [azE pn aD rfl];rcases Rc pn aD hx with ⟨rfl,rfl⟩ | ⟨_,hx⟩
  ·exact h.iE i t aD
  ·exact h.iE i x hx
theorem awd {W:ae} (h:W.mv d=some V):∃ (k:Nat) (t:a8),W.ah.findIdx? (gL d.bf)=some k∧W.ah[k]? =some t∧t.id=d.bf∧t.kind=1∧t.load<5∧beside t.spot d.spot=true∧W.field.dV d.spot=true∧W.bY.getD (W.place d.spot) 0≠0∧
  V= {W with bY:=W.bY.set (W.place d.spot) (W.bY.getD (W.place d.spot) 0 - 1),ah:=W.ah.set k (ae.pb t 1)}:=by
 unfold ae.mv at h;cases hf:W.ah.findIdx? (gL d.bf) with
 | none=>rw [hf] at h;cases h
 | some k =>
  rw [hf] at h;obtain ⟨t,aD,hid,aU⟩:=FX hf;simp only [aU] at h;split at h
  ·rename_i hc
   simp only [aNa,aM8,aQS,aNV] at hc;exact ⟨k,t,Z,aD,hid,hc.1.1.1.1,hc.1.1.1.2,hc.1.1.2,hc.1.2,hc.2,(aNf h).symm⟩
  ·cases h
theorem an3 {W:ae} (h:W.drop d=some V):∃ (k:Nat) (t:a8) (n:Int),W.ah.findIdx? (gL d.bf)=some k∧W.ah[k]? =some t∧t.id=d.bf∧t.load≠0∧beside (W.bj.getD t.owner.toNat default) t.spot=true∧n=min t.load (1000000 - W.bh.getD t.owner.toNat 0)∧0<n∧
  V= {W with bh:=W.bh.set t.owner.toNat (W.bh.getD t.owner.toNat 0+n),ah:=W.ah.set k (ae.pb t (-n))}:=by
 unfold ae.drop at h;cases hf:W.ah.findIdx? (gL d.bf) with
 | none=>rw [hf] at h;cases h
 | some k =>
  rw [hf] at h;obtain ⟨t,aD,hid,aU⟩:=FX hf;simp only [aU] at h;split at h
  ·rename_i hc
   simp only [aNa,aM8,aQS] at hc;exact ⟨k,t,_,Z,aD,hid,hc.1.1,hc.1.2,Z,hc.2,(aNf h).symm⟩
  ·cases h
theorem ar6 {W:ae} (h:W.qi d=some V):∃ c:ai,W.free (W.bj.getD d.bf.toNat default)=some c∧0≤d.bf∧d.bf<(W.bj.length:Int)∧(d.what=1∨d.what=2)∧ae.k1 d.what≤W.bh.getD d.bf.toNat 0∧W.ah.length<100∧W.next<1000000∧
  V= {W with ah:=W.ah++ [⟨W.next,d.bf,d.what,c,ae.hj d.what,0⟩],next:=W.next+1,bh:=W.bh.set d.bf.toNat (W.bh.getD d.bf.toNat 0 - ae.k1 d.what)}:=by
 unfold ae.qi at h;simp only at h;split at h
 ·rename_i hc
  simp only [aNa,aM8] at hc;have a:=jw hc.1.1.1.1;have b:=jw hc.1.1.1.2;split at h
  ·cases h
  ·rename_i c kE
   exact ⟨c,kE,a.1,by omega,by omega,hc.1.1.2,hc.1.2,hc.2,(aNf h).symm⟩
 ·cases h
theorem axT (k:Int):0≤ae.k1 k:=by unfold ae.k1;split<;>(try split)<;>omega
theorem Good.mv {W:ae} (h:Good W) (hd:W.mv d=some V):Good V:=by
 obtain ⟨k,t,_,aD,_,aj,ay,_,ew,TL,rfl⟩:=awd hd;have κ:=h.ah k t aD;have asv:ae.Az t.kind=5:=by rw [aj];rfl
 obtain ⟨i1,i2,_⟩:=av.idx h.field ew;have bB:W.place d.spot<W.bY.length:=by rw [h.Ej];unfold ae.place;omega
 obtain ⟨m,hm⟩:=jq bB;have τ:=h.bY _ m hm;have aU:W.bY.getD (W.place d.spot) 0=m:=by rw [aM0,hm];rfl
 rw [aU] at TL ⊢;refine h.turned aD Z (by have:=κ.load;omega) Z Z Z Z Z h.bh (by simp) λ i x hx=> ?_;simp only at hx;by_cases ak:W.place d.spot=i
 ·subst ak;rw [aNL bB] at hx;obtain rfl:=aNf hx;refine ⟨by omega,by omega, ?_⟩;rcases τ.2.2 with aq | aq
  ·omega
  ·exact .inr aq
 ·rw [aN4 ak] at hx;exact h.bY i x hx
theorem Good.drop {W:ae} (h:Good W) (hd:W.drop d=some V):Good V:=by
 obtain ⟨k,t,n,_,aD,_,ay,_,hn,aGO,rfl⟩:=an3 hd;have κ:=h.ah k t aD;have bB:t.owner.toNat<W.bh.length:=by rw [h.sl];have:=κ.owner;omega
 obtain ⟨s,hs⟩:=jq bB;have τ:=h.bh _ s hs;have aU:W.bh.getD t.owner.toNat 0=s:=by rw [aM0,hs];rfl
 rw [aU] at hn ⊢;refine h.turned aD Z (by have:=κ.load;omega) Z Z Z Z (by simp) (λ i x hx=> ?_) Z h.bY;simp only at hx;by_cases ak:t.owner.toNat=i
 ·subst ak;rw [aNL bB] at hx;obtain rfl:=aNf hx;omega
 ·rw [aN4 ak] at hx;exact h.bh i x hx
theorem Good.qi {W:ae} (h:Good W) (hd:W.qi d=some V):Good V:=by
 obtain ⟨c,kE,atn,jb,aj,hp,BZ,tU,rfl⟩:=ar6 hd;have tW:=aPY kE;unfold ae.Ch at tW;rw [aNa] at tW;have oE:∀ t∈W.ah,t.spot≠c:=λ t aD he=>by
  have:=tW.2;rw [aOa,aRF] at this;exact this t aD (by simp [py,he])
 have bB:d.bf.toNat<W.bh.length:=by rw [h.sl];omega
 obtain ⟨s,hs⟩:=jq bB;have τ:=h.bh _ s hs;have aU:W.bh.getD d.bf.toNat 0=s:=by rw [aM0,hs];rfl
 rw [aU] at hp ⊢;have Oc:=axT d.what;have hn:=h.next;have aco:∀ i,i≤W.ah.length→ae.iE {W with ah:=W.ah++ [⟨W.next,d.bf,d.what,c,ae.hj d.what,0⟩],next:=W.next+1,bh:=W.bh.set d.bf.toNat (s - ae.k1 d.what)} i=W.iE i:=λ i ak=>by
  unfold ae.iE;simp only;rw [aQN ak]
 have abY:∀ i,i≤W.ah.length→ae.jc {W with ah:=W.ah++ [⟨W.next,d.bf,d.what,c,ae.hj d.what,0⟩],next:=W.next+1,bh:=W.bh.set d.bf.toNat (s - ae.k1 d.what)} i=W.jc i:=λ i ak=>by
  unfold ae.jc;simp only;by_cases aC:i=0
  ·rw [aNd aC,aNd aC]
  ·rw [aM4 aC,aM4 aC,aM0,aM0,aNw (by omega)]
 have gu:∀ (i:Nat) x,(W.ah++ [(⟨W.next,d.bf,d.what,c,ae.hj d.what,0⟩:a8)])[i]? =some x→(i<W.ah.length∧W.ah[i]? =some x)∨(i=W.ah.length∧x=⟨W.next,d.bf,d.what,c,ae.hj d.what,0⟩):=λ i x hx=>by
  by_cases ak:i<W.ah.length
  ·rw [aNw ak] at hx;exact .inl ⟨ak,hx⟩
  ·rw [aNC (by omega)] at hx;have aC:i - W.ah.length=0:=by
    have:=(aM2.1 hx).1;simp at this;omega
   rw [aC] at hx;exact .inr ⟨by omega,by simpa using hx.symm⟩
 have aGA:W.jc W.ah.length<W.next∧0≤W.jc W.ah.length:=by
  by_cases aC:W.ah.length=0
  ·rw [aC];exact ⟨by show (0:Int)<_;omega,aOn _⟩
  ·obtain ⟨t,aD⟩:=jq (l:=W.ah) (i:=W.ah.length - 1) (by omega);have bb:=h.ids _ t aD;have e:W.jc W.ah.length=t.id:=by
    unfold ae.jc;rw [aM4 aC,aM0,aD];rfl
   rw [e];omega
 refine ⟨h.field,h.gX,by simp;omega,by simp;exact h.sl,h.bj,λ i x hx=> ?_,h.Ej,h.bY,λ i x hx=> ?_,λ i x hx=> ?_,λ i x hx=> ?_,by simp only;omega,h.now⟩
 ·simp only at hx;by_cases ak:d.bf.toNat=i
  ·subst ak;rw [aNL bB] at hx;obtain rfl:=aNf hx;omega
  ·rw [aN4 ak] at hx;exact h.bh i x hx
 ·rcases gu i x hx with ⟨_,hx⟩ | ⟨_,rfl⟩
  ·exact h.ah i x hx
  ·exact ⟨aj,⟨atn,jb⟩,tW.1,by simp only;rcases aj with h | h<;>rw [h]<;>decide,by simp only;rcases aj with h | h<;>rw [h]<;>decide⟩
 ·rcases gu i x hx with ⟨ak,hx⟩ | ⟨rfl,rfl⟩
  ·rw [abY i (by omega)];have:=h.ids i x hx;simp only;omega
  ·rw [abY _ (aNk _)];simp only;omega
 ·rcases gu i x hx with ⟨ak,hx⟩ | ⟨rfl,rfl⟩
  ·rw [aco i (by omega)];exact h.iE i x hx
  ·rw [aco _ (aNk _)];simp only;cases hc:(W.iE W.ah.length).contains c with
   | false=>rfl
   | true =>
    rw [aPm] at hc;unfold ae.iE at hc;obtain ⟨t,aD,he⟩:=aNn.1 hc;exact absurd he (oE t (aPr aD))
theorem Good.kD {W:ae} (h:Good W) (hd:W.kD d=some V):Good V:=by
 unfold ae.kD at hd;split at hd
 ·exact h.mv hd
 ·split at hd
  ·exact h.drop hd
  ·split at hd
   ·exact h.qi hd
   ·cases hd
theorem Good.g_ {W:ae} (h:Good W):∀ l:List dc,Good (W.g_ l).1:=by
 intro l;induction l generalizing W with
 | nil=>exact h
 | cons d l bu =>
  unfold ae.g_;cases hd:W.kD d with
  | none=>exact bu h
  | some V=>exact bu (h.kD hd)
end
structure kS (w:World) (aA S:Nat) (a:ae.cW) (W:ae):Prop where
 en:aO w S (ae.cells a W) 189 (0,0)
 own:bt w aA a W
 far:S∉bt.cA a
 low:aA≤S
theorem kS.later {w w':World} {aA S:Nat} {a:ae.cW} {W:ae} (h:kS w aA S a W) (af:Below w.heap.size w w'):kS w' aA S a W:=⟨h.en.later af,h.own.later af,h.far,h.low⟩
theorem YB (a b:ai) (w:World) (κ:0≤a.x) (τ:a.x≤40) (aq:0≤a.y) (bb:a.y≤40):
  Calls prog 157 #[.agg #[.int .i64 a.x, .int .i64 a.y], .agg #[.int .i64 b.x, .int .i64 b.y]] w λ e w'=>e= .returned (.bool (beside a b))∧Below w.heap.size w w':=by
 have cT:=kB w (.cells #[.int .i64 a.x, .int .i64 a.y] 98);have dO:=kB (w.alloc (.cells #[.int .i64 a.x, .int .i64 a.y] 98)) (.cells #[.int .i64 b.x, .int .i64 b.y] 98);have af:=cT.trans (dO.mono cT.size);unfold beside;clear cT dO;rcases aOJ b.x (a.x - 1) with bd | bd
 ·rw [oL (.inl bd)];have d1:decide (a.x - 1≤b.x)=false:=by simp;omega
  go_enter func157,ntmps157;go_wp2
  go_ret;exact ⟨Z,af⟩
 ·have d1:decide (a.x - 1≤b.x)=true:=by simp;omega
  rcases aOJ (a.x+1) b.x with bM | bM
  ·rw [oL (n:=b.x) (.inr bM)];have d2:decide (b.x≤a.x+1)=false:=by simp;omega
   go_enter func157,ntmps157;go_wp2
   go_ret;exact ⟨hk (by simp<;>omega),af⟩
  ·have d2:decide (b.x≤a.x+1)=true:=by simp;omega
   rw [ml (n:=b.x) bd bM];rcases aOJ b.y (a.y - 1) with c3 | c3
   ·rw [oL (.inl c3)];have d3:decide (a.y - 1≤b.y)=false:=by simp;omega
    go_enter func157,ntmps157;go_wp2
    go_ret;exact ⟨hk (by simp<;>omega),af⟩
   ·have d3:decide (a.y - 1≤b.y)=true:=by simp;omega
    rcases aOJ (a.y+1) b.y with c4 | c4
    ·rw [oL (n:=b.y) (.inr c4)];have d4:decide (b.y≤a.y+1)=false:=by simp;omega
     go_enter func157,ntmps157;go_wp2
     go_ret;exact ⟨hk (by simp<;>omega),af⟩
    ·have d4:decide (b.y≤a.y+1)=true:=by simp;omega
     rw [ml (n:=b.y) c3 c4];go_enter func157,ntmps157;go_wp2
     go_ret;exact ⟨hk (by simp<;>omega),af⟩
theorem az6 (t:a8) (id:Int) (g:Nat) (w:World) (aU:w.cell? ⟨g,0,none⟩=some (.int .i64 id)):
  Calls prog 166 #[.agg #[.int .i64 t.id, .int .i64 t.owner, .int .i64 t.kind, .int .i64 t.spot.x, .int .i64 t.spot.y, .int .i64 t.df, .int .i64 t.load], .pointer (some ⟨g,0,none⟩)] w λ e w'=>e= .returned (.bool (gL id t))∧Below w.heap.size w w':=by
 have af:=kB w (.cells #[.int .i64 t.id, .int .i64 t.owner, .int .i64 t.kind, .int .i64 t.spot.x, .int .i64 t.spot.y, .int .i64 t.df, .int .i64 t.load] 108);have bB:=aPW w _ aU;simp only at bB;go_enter func166,ntmps166;go_wp2_with fail
 go_ret;exact ⟨Z,af⟩
theorem atG (id:Int) (g:Nat) (A:Option Addr) (c:Nat) (l:List a8) (w:World) (ay:a8.rep.aQ 56 w A c l) (aU:w.cell? ⟨g,0,none⟩=some (.int .i64 id)):
  Calls prog 165 #[.slice A l.length c, .func (.func 166) #[] #[.pointer (some ⟨g,0,none⟩)]] w λ e w'=>e= .returned (.int .i64 (hi (gL id) l))∧Below w.heap.size w w':=by
 obtain ⟨n,hn⟩:∃ n,l.length=n:=⟨_,rfl⟩;have hle:n≤9223372036854775807:=by have:=ay.1;have:=ay.2.1;omega
 rw [hn];have b1:=aNc ay;have jj:=aNc hn;clear ay hn;go_enter func165,ntmps165;go_wp2_with fail
 go_loopw [5,8] (λ _ gM wr=>∃ k:Nat,k≤n∧gM= .int .i64 (k:Int)∧Hid (∀ j (aw:j<k) (jt:j<l.length),(gL id) l[j]=false)∧Below w.heap.size w wr) (λ _ gM _=>n - (intOf gM).toNat)
 case atStart=>exact ⟨0,aNQ _,rfl,(λ j aw=>by omega),aNH _ _⟩
 case round =>
  obtain ⟨k,aj,rfl,ji,af⟩:=hrel;by_cases bB:k<n
  ·have nO:k<l.length:=by rw [jj.out];exact bB
   obtain ⟨b,o,rfl,jM⟩:=a8.at_ (b1.out.keep af) (by omega);obtain ⟨x,qm⟩:∃ x,l[k]'nO=x:=⟨_,rfl⟩;obtain ⟨sV,lu,nZ,Ep,O6,UZ,afL⟩:=jM k x (by rw [aM3 nO,qm]);have vu:=aNc qm;have TC:wr.cell? ⟨g,0,none⟩=some (.int .i64 id):=cell_later af aU;have hc:=az6 x id g wr TC;clear jM qm;cases jL:(gL id) x with
   | true =>
    have kp:hi (gL id) l=(k:Int):=JV nO (by rw [vu.out];exact jL) λ j aw=>ji.out j aw (by omega);rw [jL] at hc;have pY:=aNc kp;clear kp jL;go_wp2_with (go_at_call 166;refine hc.mono ?_;rintro e w' ⟨rfl,bq⟩)
    go_ret;exact ⟨by rw [pY.out];rfl,af.trans (bq.mono af.size)⟩
   | false =>
    rw [jL] at hc;have od:Hid (∀ j (aw:j<k+1) (jt:j<l.length),(gL id) l[j]=false):=by
     intro j aw jt;by_cases h:j<k
     ·exact ji.out j h jt
     ·obtain rfl:j=k:=by omega
      rw [vu.out];exact jL
    clear jL;go_wp2_with (go_at_call 166;refine hc.mono ?_;rintro e w' ⟨rfl,bq⟩)
    go_roundw
    case rel=>exact ⟨k+1,by omega,by go_num,od,af.trans (bq.mono af.size)⟩
    case measure=>simp [intOf];omega
  ·have kp:hi (gL id) l= -1:=GD λ j aw=>ji.out j (by have:=jj.out;omega) aw;have pY:=aNc kp;clear kp;go_wp2_with fail
   go_ret;exact ⟨by rw [pY.out];rfl,af⟩
def VA (a:ae.cW) (k:Nat):Option Addr:=a.T.map λ x=>⟨x.block,k * 7,none⟩
def Ha (a:ae.cW) (W:ae) (id:Int):Option Addr:=match W.ah.findIdx? (gL id) with | none=>none | some k=>VA a k
theorem Pd (id:Int) (w:World) (aA S:Nat) (a:ae.cW) (W:ae) (h:kS w aA S a W):
  Calls prog 156 #[.pointer (some ⟨S,0,none⟩), .int .i64 id] w λ e w'=>e= .returned (.pointer (Ha a W id))∧Below w.heap.size w w':=by
 obtain ⟨eH,gb,gd,fv,eP,eK,fj,fX,fz,eW⟩:=a;have cT:=kB w (.cells #[.int .i64 id] 3);have kV:=aO.new w [.int .i64 id] 3 (0,0);obtain ⟨w0,iK⟩:∃ w0,Hid (w.alloc (.cells #[.int .i64 id] 3)=w0):=⟨_,aNc rfl⟩;rw [iK.out] at cT;have kV:aO w0 w.heap.size [.int .i64 id] 3 (0,0):=by rw [← iK.out];exact kV
 have aC:=h.later cT;obtain ⟨dD,h_⟩:∃ n,Hid (W.ah.length=n):=⟨_,aNc rfl⟩;have HR:=aNc (atG id w.heap.size eP eW W.ah w0 aC.own.T.has (kV.cell 0));have aGc:=h.en.lt;obtain ⟨bU,bd,bM,c3,c4,c5,dy,dX,dY⟩:=ae.rX aC.en;have aE:=aNc aC.en;have aX:a8.rep.aM 108 56 w0 aA (Φ.ab eP) eP eW W.ah:=aC.own.T;obtain ⟨yb,q7,fe,gJ,C_,Mv,alg,aEj,aEk⟩:=ae.rX h.en;rw [h_.out] at HR dy alg;unfold Ha;cases hf:W.ah.findIdx? (gL id) with
 | none =>
  have ak:hi (gL id) W.ah= -1:=by unfold hi;rw [hf]
  rw [ak] at HR;clear hf ak h aC aX kV;go_enter func156,ntmps156;go_wp2_with fail
  rw [iK.out];refine HR.out.mono ?_;rintro e cb ⟨rfl,bq⟩;go_wp2_with fail
  go_ret;exact ⟨Z,cT.trans (bq.mono cT.size)⟩
 | some k =>
  have ak:hi (gL id) W.ah=(k:Int):=by unfold hi;rw [hf]
  rw [ak] at HR;obtain ⟨t,aD,_⟩:=FX hf;have aj:k<dD:=by rw [← h_.out];exact (aM2.1 aD).1
  obtain ⟨g,rfl⟩:=aX.block (by rw [h_.out];omega);have lh:(k:Int)<(dD:Int):=by omega
  have sO:(0:Int)≤(k:Int):=by omega
  clear hf ak h aC aX kV aD;go_enter func156,ntmps156;go_wp2_with fail
  rw [iK.out];refine HR.out.mono ?_;rintro e cb ⟨rfl,bq⟩;have d6:=cell_later bq dy;clear bU bd bM c3 c4 c5 dy dX dY;go_wp2_with fail
  go_ret;exact ⟨by simp [VA],cT.trans (bq.mono cT.size)⟩
def aDv (W:ae) (V:Option ae) (w:World) (aA S:Nat) (e:Ending) (w':World):Prop :=
 ∃ a',e= .returned (.bool V.isSome)∧kS w' aA S a' (V.getD W)∧Below aA w w'
def aD0 (W:ae) (d:dc) (w:World) (aA S:Nat) (a:ae.cW) (e:Ending) (w':World):Prop :=
 ∃ V,e= .returned (.bool (W.mv d).isSome)∧(W.mv d).getD W=V∧kS w' aA S a V∧Below aA w w'
theorem OP {W:ae} {d:dc} {k:Nat} {t:a8} (hf:W.ah.findIdx? (gL d.bf)=some k) (aD:W.ah[k]? =some t):
  W.mv d=if t.kind == 1 && decide (t.load<5) && beside t.spot d.spot && W.field.dV d.spot && W.bY.getD (W.place d.spot) 0 != 0 then
   some {W with bY:=W.bY.set (W.place d.spot) (W.bY.getD (W.place d.spot) 0 - 1),ah:=W.ah.set k (ae.pb t 1)} else none:=by
 have aU:W.ah.getD k default=t:=by rw [aM0,aD];rfl
 unfold ae.mv;rw [hf];simp only [aU]
section
variable {w aN:World} {aA k:Nat} {a:ae.cW} {id m:Int} {d:dc} {t:a8}
def vH (W:ae) (V:Option ae) (w:World) (aA S:Nat) (a:ae.cW) (e:Ending) (w':World):Prop :=
 ∃ a',e= .returned (.bool V.isSome)∧kS w' aA S a' (V.getD W)∧(∀ q∈bt.cA a',q∈bt.cA a∨w.heap.size≤q)∧Mod (S::bt.cA a) w w'
theorem bt.azp {W:ae} {l:List Int} (h:bt w aA a W) (m:Mod (Φ.ab a.M) w aN) (oA:bz.aM 3 8 aN aA (Φ.ab a.M) a.M a.m l):bt aN aA a {W with bY:=l}:=by
 obtain ⟨d1,d2,d3⟩:=h.MX;exact ⟨h.P.mod m λ x hx hs=>(d1 x hs).1 hx,h.B.mod m λ x hx hs=>(d1 x hs).2.1 hx,h.S.mod m λ x hx hs=>(d1 x hs).2.2.1 hx,oA,h.T.mod m λ x hx hs=>(d1 x hs).2.2.2 hx,h.apart,h.nums⟩
theorem bt.agt {W:ae} {l:List a8} (h:bt w aA a W) (m:Mod (Φ.ab a.T) w aN) (aX:a8.rep.aM 108 56 aN aA (Φ.ab a.T) a.T a.t l):bt aN aA a {W with ah:=l}:=by
 obtain ⟨d1,d2,d3⟩:=h.MX;exact ⟨h.P.mod m λ x hx hs=>(d2 x hs).1 hx,h.B.mod m λ x hx hs=>(d2 x hs).2.1 hx,h.S.mod m λ x hx hs=>(d2 x hs).2.2.1 hx,h.M.mod m λ x hx hs=>(d2 x hs).2.2.2 hx,aX,h.apart,h.nums⟩
theorem agQ {W:ae} (h:bt w aA a W) (hf:W.ah.findIdx? (gL id)=some k):Ha a W id=some ⟨et a.T,jR a.T+k * 7,none⟩:=by
 obtain ⟨t,aD,_⟩:=FX hf;have aX:a8.rep.aM 108 56 w aA (Φ.ab a.T) a.T a.t W.ah:=h.T;obtain ⟨g,aU⟩:=aX.block (by have:=(aM2.1 aD).1;omega);unfold Ha VA;rw [hf,aU];simp [et,jR]
theorem agP {W:ae} (hf:W.ah.findIdx? (gL id)=none):Ha a W id=none:=by unfold Ha;rw [hf]
theorem ae0 {W:ae} (hf:W.ah.findIdx? (gL d.bf)=none):W.mv d=none:=by unfold ae.mv;rw [hf]
theorem aeZ {W:ae} (hf:W.ah.findIdx? (gL d.bf)=some k) (aD:W.ah[k]? =some t) (h:((t.kind != 1 || decide (5≤t.load)) || !beside t.spot d.spot)=true):W.mv d=none:=by
 rw [OP hf aD,aM4];intro hc;simp only [aNa,aM8,aNV] at hc;simp only [hc.1.1.2,hc.1.1.1.1,aNG,bne_self_eq_false,aM8,aPa,aNR,aPi,false_or] at h;omega
theorem ae1 {W:ae} (hf:W.ah.findIdx? (gL d.bf)=some k) (aD:W.ah[k]? =some t) (hF:W.field.a7=0) (h:¬ W.field.cH d.spot=0):W.mv d=none:=by
 rw [OP hf aD,aM4];intro hc;simp only [aNa] at hc;exact h (av.la hF hc.1.2).1
theorem ae2 {W:ae} (hf:W.ah.findIdx? (gL d.bf)=some k) (aD:W.ah[k]? =some t) (hm:W.bY.getD (W.place d.spot) 0=m) (h:m=0):W.mv d=none:=by
 rw [OP hf aD,hm,h,aM4 (by simp)]
theorem awc {W:ae} (hf:W.ah.findIdx? (gL d.bf)=some k) (aD:W.ah[k]? =some t) (aj:t.kind=1) (ay:t.load<5) (af:beside t.spot d.spot=true) (ew:W.field.dV d.spot=true) (hm:W.bY.getD (W.place d.spot) 0=m) (h:¬ m=0):
  W.mv d=some {W with bY:=W.bY.set (W.place d.spot) (m - 1),ah:=W.ah.set k (ae.pb t 1)}:=by
 rw [OP hf aD,hm,aNd];simp [aj,ay,af,ew,h]
theorem awa (d:dc) (w:World) (aA S:Nat) (a:ae.cW) (W:ae) (h:kS w aA S a W) (ar:Good W) (hf:W.ah.findIdx? (gL d.bf)=none):
  Calls prog 143 #[.pointer (a_ S), .agg #[γ d.kind,γ d.bf,γ d.spot.x,γ d.spot.y,γ d.what]] w (vH W (W.mv d) w aA S a):=by
 have j8:=h.low;have ia:=h.far;have bp:=h.en;have bc:=h.own;have oK:=agP (a:=a) hf;refine cx (n:=88) func143 Z Z Z ?_;refine fa Z Z λ xq C' nr Ou fE=> ?_;have kQ:=(Mod.bN (S::bt.cA a) w).trans (Mod.aP nr);refine aT Z<|aK Z<|aa (au yl Z)<|bA Z fE a6 Z<| ?_;have bp:=bp.later nr;have bc:=bc.later nr;refine c0 M3 Z ((oK ▸ Pd d.bf _ aA S a W ⟨bp,bc,ia,j8⟩)) λ uG bD=> ?_;have jh:=kQ.trans (Mod.aP bD);refine aT Z<|aI<|aI<| ?_;refine dw [(6,0),(13,0),(20,0),(22,0),(23,0)] [0,1,2,3,4,5,6,7,8,9,10,11,12,13,14,15,16,17,18,19,20,21,22,23,24,25] ?_;refine bn rfl rfl<|ax rfl (λ _=>MB underlying214 rfl rfl)<|bn rfl rfl<|cV rfl rfl<|cV rfl rfl<|cV rfl rfl<|i_ rfl rfl<|cV rfl rfl<|ax rfl (λ _=>nY rfl rfl)<|bn rfl rfl<|cV rfl rfl<|cV rfl rfl<|cV rfl rfl<|i_ rfl rfl<|cV rfl rfl<|ax rfl (λ _=>nY rfl rfl)<|bn rfl rfl<|cV rfl rfl<|cV rfl rfl<|cV rfl rfl<|i_ rfl rfl<|cV rfl rfl<|i_ rfl rfl<|km (v:=undef) (args:= []) rfl rfl rfl rfl rfl rfl M4 (λ hc=>nomatch hc) (λ hc=>nomatch hc) rfl<| ?_;refine cV Z Z<|ax Z (λ _=>nY Z Z)<|fn λ xp eA=> ?_;have iU:=jh.trans (Mod.aP eA);refine br<|gZ Z<|aF<|bH Z<|cU<|cZ Z Z<| ?_;have dW:=(J bD eA);have bc:=bc.later dW;have bp:=bp.later dW;exact ⟨a,by rw [ae0 hf];rfl,by rw [ae0 hf];exact ⟨bp,bc,ia,j8⟩,λ q I=> .inl I,iU⟩
theorem av9 (d:dc) (w:World) (aA S:Nat) (a:ae.cW) (W:ae) (h:kS w aA S a W) (ar:Good W) (k:Nat) (t:a8) (hf:W.ah.findIdx? (gL d.bf)=some k) (aD:W.ah[k]? =some t):
  Calls prog 143 #[.pointer (a_ S), .agg #[γ d.kind,γ d.bf,γ d.spot.x,γ d.spot.y,γ d.what]] w (vH W (W.mv d) w aA S a):=by
 have N9:=ar.Ej;have j8:=h.low;have ia:=h.far;have bp:=h.en;have bc:=h.own;have zP:∀ q∈bt.cA a,q=S→False:=λ q I af=>ia (af ▸ I);have fA:=bZ bc.lt;have oK:=agQ bc hf;have aX:=ar.ah k t aD;obtain ⟨i1,i2,i3,i4,i5,i6⟩:=av.idx ar.field (av.jr aX.ground);obtain ⟨uY,qU,s8,s9,_,_⟩:=av.hg ar.field;have dO:0≤t.spot.x:=by omega
 have bq:t.spot.x≤40:=by omega
 have er:0≤t.spot.y:=by omega
 have dZ:t.spot.y≤40:=by omega
 have asi:=aX.load;refine cx (n:=88) func143 Z Z Z ?_;refine fa Z Z λ xq C' nr Ou fE=> ?_;have kQ:=(Mod.bN (S::bt.cA a) w).trans (Mod.aP nr);refine aT Z<|aK Z<|aa (au yl Z)<|bA Z fE a6 Z<| ?_;have bp:=bp.later nr;have bc:=bc.later nr;refine c0 M3 Z ((oK ▸ Pd d.bf _ aA S a W ⟨bp,bc,ia,j8⟩)) λ uG bD=> ?_;have jh:=kQ.trans (Mod.aP bD);refine aT Z<|aI<|aI<| ?_;refine dw [(6,0),(13,0),(20,0),(22,0),(23,0)] [0,1,2,3,4,5,6,7,8,9,10,11,12,13,14,15,16,17,18,19,20,21,22,23,24,25] ?_;refine bn Z Z<|ax Z (λ _=>MB underlying214 Z Z)<|bn Z Z<|eQ Z Z Z<|bR Z Z (λ hc _=>b3 Z)<|bR Z Z (λ hc _=>au Nf Z)<| ?_;have bc:=bc.later bD;refine dE Z Z (λ hc _ x=>aB Z (Φ.aQ.ox js (by rw [← (bc.later x).T.has.bw (aZ k (by have:=(aM2.1 aD).1;exact this))];exact (bc.later x).T.has) 2 aD Z a6))<|bR Z Z (λ hc _=>bne Z Z)<|ax Z (λ _=>oV Z Z)<|bn Z Z<|eQ Z Z Z<|bR Z Z (λ hc _=>b3 (gt hc Z))<|bR Z Z (λ hc _=>au BC (gt hc Z))<|dE Z Z (λ hc _ x=>aB (gt hc Z) (Φ.aQ.ox js (by rw [← (bc.later x).T.has.bw (aZ k (by have:=(aM2.1 aD).1;exact this))];exact (bc.later x).T.has) 6 aD Z a6))<|bR Z Z (λ hc _=>ld (gt hc Z) Z)<|ax Z (λ _=>gv Z Z Z Z)<|bn Z Z<|eQ Z Z Z<|bR Z Z (λ hc _=>b3 (gt hc Z))<|bR Z Z (λ hc _=>au ri (gt hc Z))<|dE Z Z (λ hc _ x=>aB (gt hc Z) (Φ.aQ.part js (by rw [← (bc.later x).T.has.bw (aZ k (by have:=(aM2.1 aD).1;exact this))];exact (bc.later x).T.has) 3 (ds:= [γ t.spot.x,γ t.spot.y]) aD Z b2 bs))<|bR Z Z (λ hc _=>au M6 Z)<| ?_;have fE:=fE.later bD;refine dE Z Z (λ hc _ x=>aB (gt hc Z) ((fE.later x).par [γ d.spot.x,γ d.spot.y] b2 bs Z))<|km Z Z Z Z Z Z M4 (λ hc=>fO (gt hc Z) (fO (gt hc Z) Z)) (λ hc _ x=>YB t.spot d.spot _ dO bq er dZ) Z<|bR Z Z (λ hc _=>dD (gt hc Z))<|ax Z (λ _=>gv Z Z Z Z)<|fn λ xp eA=> ?_;have iU:=jh.trans (Mod.aP eA);refine br<| ?_;refine c1 Z (λ j6=> ?_) (λ j6=> ?_)
 ·refine aF<|bH Z<|cU<|cZ Z Z<| ?_;have bc:=bc.later eA;have bp:=bp.later (J bD eA);exact ⟨a,by rw [aeZ hf aD j6];rfl,by rw [aeZ hf aD j6];exact ⟨bp,bc,ia,j8⟩,λ q I=> .inl I,iU⟩
 ·simp only [aNO,bne_eq_false_iff_eq,aM7,aPD,Int.not_le] at j6;obtain ⟨⟨aj,ay⟩,Ju⟩:=j6;refine bE<|aI<|aI<| ?_;refine dw [(4,0),(6,0),(7,0)] [0,1,2,3,4,5,6,7,8,9,10,11,12] ?_;refine bn Z Z<|ax Z (λ _=>b3 Z)<|ax Z (λ _=>au mg Z)<|ax Z (λ _=>au p7 Z)<| ?_;have bp:=bp.later (J bD eA);refine cS Z (λ _ x=>aB Z ((bp.later x).par [γ W.field.wide,γ W.field.high, .slice a.P W.field.places.length a.p] hb gD Z))<|ax Z (λ _=>au M6 Z)<| ?_;have fE:=fE.later eA;refine cS Z (λ _ x=>aB Z ((fE.later x).par [γ d.spot.x,γ d.spot.y] b2 bs Z))<| ?_;have bc:=bc.later eA;refine rk Z Z pg Z (λ _ x=>p_ W.field d.spot a.P a.p _ ((bc.later x).P).has) Z<|bn Z Z<|ax Z (λ _=>ex Z Z)<|ax Z (λ _=>ex Z Z)<|ax Z (λ _=>eV Z)<|ax Z (λ _=>eV Z)<|fn λ s3 b4=> ?_;have iV:=iU.trans (Mod.aP b4);refine br<|aK Z<|gN Z Z<|aJ<| ?_;refine oq Z (λ tP=> ?_) (λ tP=> ?_)
  ·refine aF<|bH Z<|cU<|cZ Z Z<| ?_;have bc:=bc.later b4;have bp:=bp.later b4;exact ⟨a,by rw [ae1 hf aD ar.field tP];rfl,by rw [ae1 hf aD ar.field tP];exact ⟨bp,bc,ia,j8⟩,λ q I=> .inl I,iV⟩
  ·have ew:=Is ar.field tP;obtain ⟨fo,fU,iq,nn,kc,o1⟩:=av.idx ar.field ew;have tX:=av.kr ar.field;obtain ⟨uY,qU,s8,s9,_,_⟩:=av.hg ar.field;have ky:0≤d.spot.y * W.field.wide:=aPC kc (by omega);have z2:d.spot.y * W.field.wide≤1600:=by omega
   have ach:W.place d.spot<W.bY.length:=by unfold ae.place;omega
   obtain ⟨m,hm⟩:=jq ach;have aGM:=ar.bY _ m hm;have TO:W.bY.getD (W.place d.spot) 0=m:=by rw [aM0,hm];rfl
   refine bE<|aI<| ?_;refine dw [(4,0),(7,0),(13,0),(17,0)] [0,1,2,3,4,5,6,7,8,9,10,11,12,13,14,15,16,17,18,19,20] ?_;refine bn Z Z<|ax Z (λ _=>b3 Z)<|ax Z (λ _=>au mg Z)<|ax Z (λ _=>au FT Z)<| ?_;have bp:=bp.later b4;refine cP Z Z bp fI Z<|ax Z (λ _=>au M6 Z)<|ax Z (λ _=>au hG Z)<| ?_;have fE:=fE.later b4;refine cP Z Z fE a6 Z<|bn Z Z<|ax Z (λ _=>b3 Z)<|ax Z (λ _=>au mg Z)<|ax Z (λ _=>au p7 Z)<|ax Z (λ _=>au Dm Z)<|cP Z Z bp a6 Z<|ax Z (λ _=>zM Z Z fP)<|ax Z (λ _=>au M6 Z)<|ax Z (λ _=>au hE Z)<|cP Z Z fE a6 Z<|ax Z (λ _=>bad Z Z fP)<| ?_;have bc:=bc.later b4;refine ax Z (λ _=>bX (((d.spot.y * W.field.wide)+d.spot.x).toNat) underlying46 cr Z Z (bc.M.has.bw (aZ (((d.spot.y * W.field.wide)+d.spot.x).toNat) (show (d.spot.y * W.field.wide+d.spot.x).toNat<W.bY.length by omega))) (by omega) (show (d.spot.y * W.field.wide+d.spot.x).toNat<W.bY.length by omega))<|ax Z (λ _=>eV Z)<|fn λ ahn o4=> ?_;have zd:=iV.trans (Mod.aP o4);refine br<|aI<|aK Z<|aa (b3 Z)<| ?_;have bc:=bc.later o4;refine aa (aB Z (Φ.aQ.dj dA (by rw [← bc.M.has.bw (aZ (((d.spot.y * W.field.wide)+d.spot.x).toNat) (show (d.spot.y * W.field.wide+d.spot.x).toNat<W.bY.length by omega))];exact bc.M.has) hm Z a6))<|aa (beq Z Z)<|aJ<| ?_;refine lf Z (λ v_=> ?_) (λ v_=> ?_)
   ·refine aF<|bH Z<|cU<|cZ Z Z<| ?_;have bp:=bp.later o4;exact ⟨a,by rw [ae2 hf aD TO v_];rfl,by rw [ae2 hf aD TO v_];exact ⟨bp,bc,ia,j8⟩,λ q I=> .inl I,zd⟩
   ·refine bE<|aK Z<|aa (b3 Z)<|aa (aB Z (Φ.aQ.dj dA (by rw [← bc.M.has.bw (aZ (((d.spot.y * W.field.wide)+d.spot.x).toNat) (show (d.spot.y * W.field.wide+d.spot.x).toNat<W.bY.length by omega))];exact bc.M.has) hm Z a6))<|aa (iM Z Z fP)<|aa (b3 Z)<|so (q':=m - 1) (j:=0) (i:=((d.spot.y * W.field.wide)+d.spot.x).toNat) bc.M Φ.c6 hm Z Z Z Z (λ _ cs h=>by have xf:=(show _∧_ from h).2;obtain rfl:=dA h;exact ⟨rfl,cI.2 (by omega)⟩) Z Z cr λ uE B9 aku=> ?_;have bp:=bp.later o4;have fE:=fE.later o4;have ke:=zd.md B9 (λ q I=> .inl (aNe _ (BH I)));have LN:=bc.azp B9 aku;have FB:∀ q∈Φ.ab a.M,q=S→False:=λ q I af=>by (exact zP q (BH I) af)
    have bp:=bp.mod B9 (λ I=>FB _ I rfl);refine aJ<|aK Z<|aa (b3 Z)<|aa (au BC Z)<|aa (aB Z (Φ.aQ.ox js (by rw [← LN.T.has.bw (aZ k (by have:=(aM2.1 aD).1;exact this))];exact LN.T.has) 6 aD Z a6))<|fl Z Z<|aa (b3 Z)<|aa (au BC Z)<|so (q':=ae.pb t 1) (j:=6) (i:=k) LN.T Φ.c6 aD Z Z Z Z (λ _ cs h=>by have xf:=(show _∧_ from h).2;obtain rfl:=js h;exact ⟨rfl,by obtain ⟨ui,pB,rP,uj,uk,OU,UO⟩:=xf;exact ⟨ui,pB,rP,uj,uk,OU,cI.2 (by show _≤t.load+1∧t.load+1≤_;omega)⟩⟩) Z Z cr λ AQ jQ aky=> ?_;have Rx:∀ q∈Φ.ab a.M,q=C'→False:=λ q I af=>by (have:=fA q (BH I);omega)
    have fE:=fE.mod B9 (λ I=>Rx _ I rfl);have jg:=ke.md jQ (λ q I=> .inl (aNe _ (ph I)));have ajL:=LN.agt jQ aky;have MN:∀ q∈Φ.ab a.T,q=S→False:=λ q I af=>by (exact zP q (ph I) af)
    have bp:=bp.mod jQ (λ I=>MN _ I rfl);refine aJ<|aF<|bH Z<|cZ Z Z<| ?_;rw [awc hf aD aj ay Ju ew TO (by assumption)];exact ⟨a,Z,⟨by simpa [ae.cells] using bp,ajL,ia,j8⟩,λ q I=> .inl I,jg⟩
end
def aDw (W:ae) (d:dc) (w:World) (aA S:Nat) (a:ae.cW) (e:Ending) (w':World):Prop :=
 ∃ V,e= .returned (.bool (W.drop d).isSome)∧(W.drop d).getD W=V∧kS w' aA S a V∧Below aA w w'
theorem drop_eq {W:ae} {d:dc} {k:Nat} {t:a8} {b:ai} {s:Int} (hf:W.ah.findIdx? (gL d.bf)=some k) (aD:W.ah[k]? =some t) (af:W.bj[t.owner.toNat]? =some b) (hs:W.bh[t.owner.toNat]? =some s):
  W.drop d=if t.load != 0 && beside b t.spot && decide (0<min t.load (1000000 - s)) then
   some {W with bh:=W.bh.set t.owner.toNat (s+min t.load (1000000 - s)),ah:=W.ah.set k (ae.pb t (-(min t.load (1000000 - s))))} else none:=by
 have aU:W.ah.getD k default=t:=by rw [aM0,aD];rfl
 have TD:W.bj.getD t.owner.toNat default=b:=by rw [aM0,af];rfl
 have arV:W.bh.getD t.owner.toNat 0=s:=by rw [aM0,hs];rfl
 unfold ae.drop;rw [hf];simp only [aU,TD,arV]
theorem agu {α:Type} {l:List α} {i:Nat} {x:α} (h:l[i]? =some x):l.set i x=l:=by
 apply aOI;intro j;by_cases e:i=j
 ·subst e;rw [aNL (aM2.1 h).1,h]
 ·rw [aN4 e]
section
variable {d:dc} {k:Nat} {t:a8} {b:ai} {s:Int}
theorem ZG {W:ae} (hf:W.ah.findIdx? (gL d.bf)=none):W.drop d=none:=by unfold ae.drop;rw [hf]
theorem ZF {W:ae} (hf:W.ah.findIdx? (gL d.bf)=some k) (aD:W.ah[k]? =some t) (af:W.bj[t.owner.toNat]? =some b) (hs:W.bh[t.owner.toNat]? =some s) (h:(t.load == 0 || !beside b t.spot)=true):W.drop d=none:=by
 rw [drop_eq hf aD af hs,aM4];intro hc;simp only [aNa,aQS] at hc;simp only [hc.1.2,aNG,aNV,aPa,aNR,aPi] at h;exact hc.1.1 h
theorem an4 {W:ae} (hf:W.ah.findIdx? (gL d.bf)=some k) (aD:W.ah[k]? =some t) (af:W.bj[t.owner.toNat]? =some b) (hs:W.bh[t.owner.toNat]? =some s) (ay:¬ t.load=0) (Ju:beside b t.spot=true) (ar:Good W):
  (W.drop d).isSome=decide (0<min t.load (1000000 - s))∧(W.drop d).getD W= {W with bh:=W.bh.set t.owner.toNat (s+min t.load (1000000 - s)),ah:=W.ah.set k (ae.pb t (-(min t.load (1000000 - s))))}:=by
 have κ:=(ar.ah k t aD).load.1;have τ:=ar.bh _ _ hs;rw [drop_eq hf aD af hs];by_cases hn:0<min t.load (1000000 - s)
 ·rw [aNd (by simp [ay,Ju,hn])];exact ⟨by simp [hn],rfl⟩
 ·rw [aM4 (by simp [hn])];have aC:min t.load (1000000 - s)=0:=by omega
  refine ⟨by simp [hn], ?_⟩;rw [aC];have aR:W.bh.set t.owner.toNat (s+0)=W.bh:=by rw [Int.add_zero];exact agu hs
  have a1:W.ah.set k (ae.pb t (-0))=W.ah:=by
   have:ae.pb t (-0)=t:=by unfold ae.pb;simp
   rw [this];exact agu aD
  rw [aR,a1];rfl
theorem an1 (d:dc) (w:World) (aA S:Nat) (a:ae.cW) (W:ae) (h:kS w aA S a W) (ar:Good W) (hf:W.ah.findIdx? (gL d.bf)=none):
  Calls prog 144 #[.pointer (a_ S), .agg #[γ d.kind,γ d.bf,γ d.spot.x,γ d.spot.y,γ d.what]] w (vH W (W.drop d) w aA S a):=by
 have j8:=h.low;have ia:=h.far;have bp:=h.en;have bc:=h.own;have oK:=agP (a:=a) hf;refine cx (n:=80) func144 Z Z Z ?_;refine fa Z Z λ xq C' nr Ou fE=> ?_;have kQ:=(Mod.bN (S::bt.cA a) w).trans (Mod.aP nr);refine aT Z<|aK Z<|aa (au yl Z)<|bA Z fE a6 Z<| ?_;have bp:=bp.later nr;have bc:=bc.later nr;refine c0 M3 Z ((oK ▸ Pd d.bf _ aA S a W ⟨bp,bc,ia,j8⟩)) λ uG bD=> ?_;have jh:=kQ.trans (Mod.aP bD);refine aT Z<|aI<|aI<| ?_;refine dw [(6,0),(14,0),(18,0),(20,0),(24,0),(25,0)] [0,1,2,3,4,5,6,7,8,9,10,11,12,13,14,15,16,17,18,19,20,21,22,23,24,25,26,27] ?_;refine bn Z Z<|ax Z (λ _=>MB underlying214 Z Z)<|bn Z Z<|cV Z Z<|cV Z Z<|cV Z Z<|i_ Z Z<|cV Z Z<|ax Z (λ _=>nY Z Z)<|bn Z Z<|cV Z Z<|cV Z Z<|cV Z Z<|cV Z Z<|i_ Z Z<|cV Z Z<|cV Z Z<|cV Z Z<|i_ Z Z<|cV Z Z<|i_ Z Z<|cV Z Z<|cV Z Z<|cV Z Z<| ?_;refine i_ rfl rfl<|km (v:=undef) (args:= []) rfl rfl rfl rfl rfl rfl M4 (λ hc=>nomatch hc) (λ hc=>nomatch hc) rfl<|cV rfl rfl<|ax rfl (λ _=>nY rfl rfl)<|fn λ xp eA=> ?_;have iU:=jh.trans (Mod.aP eA);refine br<|gZ Z<|aF<|bH Z<|cU<|cZ Z Z<| ?_;have dW:=(J bD eA);have bc:=bc.later dW;have bp:=bp.later dW;exact ⟨a,by rw [ZG hf];rfl,by rw [ZG hf];exact ⟨bp,bc,ia,j8⟩,λ q I=> .inl I,iU⟩
theorem drop2 (d:dc) (w:World) (aA S:Nat) (a:ae.cW) (W:ae) (h:kS w aA S a W) (ar:Good W) (k:Nat) (t:a8) (hf:W.ah.findIdx? (gL d.bf)=some k) (aD:W.ah[k]? =some t):
  Calls prog 144 #[.pointer (a_ S), .agg #[γ d.kind,γ d.bf,γ d.spot.x,γ d.spot.y,γ d.what]] w (vH W (W.drop d) w aA S a):=by
 have yF:=ar.sl;have j8:=h.low;have ia:=h.far;have bp:=h.en;have bc:=h.own;have zP:∀ q∈bt.cA a,q=S→False:=λ q I af=>ia (af ▸ I);have fA:=bZ bc.lt;have oK:=agQ bc hf;have aX:=ar.ah k t aD;have how:=aX.owner;obtain ⟨b,af⟩:=jq (l:=W.bj) (i:=t.owner.toNat) (by omega);obtain ⟨Ex,hs⟩:=jq (l:=W.bh) (i:=t.owner.toNat) (by omega);have aHb:=ar.bh _ _ hs;have Tn:=ar.bj _ _ af;obtain ⟨i1,i2,i3,i4,i5,i6⟩:=av.idx ar.field (av.jr Tn.1);obtain ⟨uY,qU,s8,s9,_,_⟩:=av.hg ar.field;have dO:0≤b.x:=by omega
 have bq:b.x≤40:=by omega
 have er:0≤b.y:=by omega
 have dZ:b.y≤40:=by omega
 have asi:=aX.load;have asv:ae.Az t.kind≤5:=by unfold ae.Az;split<;>omega
 refine cx (n:=80) func144 Z Z Z ?_;refine fa Z Z λ xq C' nr Ou fE=> ?_;have kQ:=(Mod.bN (S::bt.cA a) w).trans (Mod.aP nr);refine aT Z<|aK Z<|aa (au yl Z)<|bA Z fE a6 Z<| ?_;have bp:=bp.later nr;have bc:=bc.later nr;refine c0 M3 Z ((oK ▸ Pd d.bf _ aA S a W ⟨bp,bc,ia,j8⟩)) λ uG bD=> ?_;have jh:=kQ.trans (Mod.aP bD);refine aT Z<|aI<|aI<| ?_;refine dw [(6,0),(14,0),(18,0),(20,0),(24,0),(25,0)] [0,1,2,3,4,5,6,7,8,9,10,11,12,13,14,15,16,17,18,19,20,21,22,23,24,25,26,27] ?_;refine bn Z Z<|ax Z (λ _=>MB underlying214 Z Z)<|bn Z Z<|eQ Z Z Z<|bR Z Z (λ hc _=>b3 Z)<|bR Z Z (λ hc _=>au BC Z)<| ?_;have bc:=bc.later bD;refine dE Z Z (λ hc _ x=>aB Z (Φ.aQ.ox js (by rw [← (bc.later x).T.has.bw (aZ k (by have:=(aM2.1 aD).1;simpa using this))];exact (bc.later x).T.has) 6 aD Z a6))<|bR Z Z (λ hc _=>beq Z Z)<|ax Z (λ _=>oV Z Z)<|bn Z Z<|eQ Z Z Z<|bR Z Z (λ hc _=>b3 (gt hc Z))<|bR Z Z (λ hc _=>au mg (gt hc Z))<|bR Z Z (λ hc _=>au sD (gt hc Z))<| ?_;have bp:=bp.later bD;refine dE Z Z (λ hc _ x=>aB (gt hc Z) ((bp.later x).one yo Z))<|eQ Z Z Z<|bR Z Z (λ hc _=>b3 (gt hc Z))<|bR Z Z (λ hc _=>au BE (gt hc Z))<|dE Z Z (λ hc _ x=>aB (gt hc Z) (Φ.aQ.ox js (by rw [← (bc.later x).T.has.bw (aZ k (by have:=(aM2.1 aD).1;simpa using this))];exact (bc.later x).T.has) 1 aD Z a6))<|bR Z Z (λ hc _=>bX t.owner.toNat underlying49 bs (gt hc Z) (gt hc Z) (bc.B.has.bw (aZ t.owner.toNat (show t.owner.toNat<W.bj.length by omega))) (by (try simp only [cq] at hc);omega) (show t.owner.toNat<W.bj.length by omega))<|dE Z Z (λ hc _ x=>aB (gt hc Z) (Φ.aQ.jJ wh (by rw [← (bc.later x).B.has.bw (aZ t.owner.toNat (show t.owner.toNat<W.bj.length by omega))];exact (bc.later x).B.has) af b2 bs))<|eQ Z Z Z<|bR Z Z (λ hc _=>b3 (gt hc Z))<|bR Z Z (λ hc _=>au ri (gt hc Z))<|dE Z Z (λ hc _ x=>aB (gt hc Z) (Φ.aQ.part js (by rw [← (bc.later x).T.has.bw (aZ k (by have:=(aM2.1 aD).1;simpa using this))];exact (bc.later x).T.has) 3 (ds:= [γ t.spot.x,γ t.spot.y]) aD Z b2 bs))<|km Z Z Z Z Z Z M4 (λ hc=>fO (gt hc Z) (fO (gt hc Z) Z)) (λ hc _ x=>YB b t.spot _ dO bq er dZ) Z<|bR Z Z (λ hc _=>dD (gt hc Z))<|ax Z (λ _=>gv Z Z Z Z)<|fn λ xp eA=> ?_;have iU:=jh.trans (Mod.aP eA);refine br<| ?_;refine c1 Z (λ j6=> ?_) (λ j6=> ?_)
 ·refine aF<|bH Z<|cU<|cZ Z Z<| ?_;have bc:=bc.later eA;have bp:=bp.later eA;exact ⟨a,by rw [ZF hf aD af hs j6];rfl,by rw [ZF hf aD af hs j6];exact ⟨bp,bc,ia,j8⟩,λ q I=> .inl I,iU⟩
 ·simp only [aNO,aQh,aPD,ne_eq] at j6;obtain ⟨ay,Ju⟩:=j6;have as9:(W.ah.set k (ae.pb t (-(min t.load (1000000 - Ex)))))[k]? =some (ae.pb t (-(min t.load (1000000 - Ex)))):=aNL (aM2.1 aD).1;refine bE<|aI<| ?_;refine dw [(3,0),(8,0),(12,0),(14,0)] [0,1,2,3,4,5,6,7,8,9,10,11,12,13,14,15,16,17] ?_;refine bn Z Z<|ax Z (λ _=>b3 Z)<|ax Z (λ _=>au BC Z)<| ?_;have bc:=bc.later eA;refine cS Z (λ _ x=>aB Z (Φ.aQ.ox js (by rw [← (bc.later x).T.has.bw (aZ k (by have:=(aM2.1 aD).1;simpa using this))];exact (bc.later x).T.has) 6 aD Z a6))<|bn Z Z<|ax Z (λ _=>b3 Z)<|ax Z (λ _=>au mg Z)<|ax Z (λ _=>au tL Z)<| ?_;have bp:=bp.later eA;refine cP Z Z bp fI Z<|bn Z Z<|ax Z (λ _=>b3 Z)<|ax Z (λ _=>au BE Z)<|cS Z (λ _ x=>aB Z (Φ.aQ.ox js (by rw [← (bc.later x).T.has.bw (aZ k (by have:=(aM2.1 aD).1;simpa using this))];exact (bc.later x).T.has) 1 aD Z a6))<|ax Z (λ _=>bX t.owner.toNat underlying46 cr Z Z (bc.S.has.bw (aZ t.owner.toNat (show t.owner.toNat<W.bh.length by omega))) (by omega) (show t.owner.toNat<W.bh.length by omega))<|cS Z (λ _ x=>aB Z (Φ.aQ.dj dA (by rw [← (bc.later x).S.has.bw (aZ t.owner.toNat (show t.owner.toNat<W.bh.length by omega))];exact (bc.later x).S.has) hs Z a6))<|ax Z (λ _=>iM Z Z fP)<|ax Z (λ _=>Kp Z Z)<|ax Z (λ _=>eV Z)<|fn λ s3 b4=> ?_;have iV:=iU.trans (Mod.aP b4);refine br<|aK Z<|aa (b3 Z)<|aa (au BC Z)<| ?_;have bc:=bc.later b4;refine aa (aB Z (Φ.aQ.ox js (by rw [← bc.T.has.bw (aZ k (by have:=(aM2.1 aD).1;simpa using this))];exact bc.T.has) 6 aD Z a6))<|vm Z<|aa (iM Z Z fP)<|aa (b3 Z)<|aa (au BC Z)<|so (q':=ae.pb t (-(min t.load (1000000 - Ex)))) (j:=6) (i:=k) bc.T Φ.c6 aD Z Z Z Z (λ _ cs h=>by have xf:=(show _∧_ from h).2;obtain rfl:=js h;exact ⟨rfl,by obtain ⟨ui,pB,rP,uj,uk,OU,UO⟩:=xf;exact ⟨ui,pB,rP,uj,uk,OU,cI.2 (by show _≤t.load+ -(min t.load (1000000 - Ex))∧t.load+ -(min t.load (1000000 - Ex))≤_;omega)⟩⟩) Z Z cr λ qN oO QY=> ?_;have bp:=bp.later b4;have fE:=fE.later (J bD (J eA b4));have l3:=iV.md oO (λ q I=> .inl (aNe _ (ph I)));have xV:=bc.agt oO QY;have FA:∀ q∈Φ.ab a.T,q=S→False:=λ q I af=>by (exact zP q (ph I) af)
  have bp:=bp.mod oO (λ I=>FA _ I rfl);refine aJ<|aI<| ?_;refine dw [(4,0),(8,0),(10,0),(14,3)] [0,1,2,3,4,5,6,7,8,9,10,11,12,13,14] ?_;refine bn Z Z<|ax Z (λ _=>b3 Z)<|ax Z (λ _=>au mg Z)<|ax Z (λ _=>au tL Z)<|cP Z Z bp fI Z<|bn Z Z<|ax Z (λ _=>b3 Z)<|ax Z (λ _=>au BE Z)<|Sj (v:=γ t.owner) Z Z (λ _ x=>aB Z (Φ.aQ.ox js (by rw [← (xV.later x).T.has.bw (aZ k (by have:=(aM2.1 aD).1;simpa using this))];exact (xV.later x).T.has) 1 as9 Z a6)) Z<|ax Z (λ _=>bX t.owner.toNat underlying46 cr Z Z (xV.S.has.bw (aZ t.owner.toNat (show t.owner.toNat<W.bh.length by omega))) (by omega) (show t.owner.toNat<W.bh.length by omega))<|cS Z (λ _ x=>aB Z (Φ.aQ.dj dA (by rw [← (xV.later x).S.has.bw (aZ t.owner.toNat (show t.owner.toNat<W.bh.length by omega))];exact (xV.later x).S.has) hs Z a6))<|bn Z Z<|ax Z (λ _=>bad Z Z fP)<|ax Z (λ _=>bX t.owner.toNat underlying46 cr Z Z (xV.S.has.bw (aZ t.owner.toNat (show t.owner.toNat<W.bh.length by omega))) (by omega) (show t.owner.toNat<W.bh.length by omega))<|dC Z Z Z λ y6 jf Q hK=>so (q':=Ex+min t.load (1000000 - Ex)) (j:=0) (i:=t.owner.toNat) (xV.later jf).S Φ.c6 hs Z Z Z Z (λ _ cs h=>by have xf:=(show _∧_ from h).2;obtain rfl:=dA h;exact ⟨rfl,cI.2 (by omega)⟩) Z Z cr λ EC D' akw=>hK _ _ ?_;have l4:=l3.trans (Mod.aP jf);have xV:=xV.later jf;have bp:=bp.later jf;have anw:∀ q∈Φ.ab a.T,q=C'→False:=λ q I af=>by (have:=fA q (ph I);omega)
  have fE:=(fE.mod oO (λ I=>anw _ I rfl)).later jf;have nv:=l4.md D' (λ q I=> .inl (aNe _ (BI I)));have QA:=xV.ags D' akw;have ot:∀ q∈Φ.ab a.S,q=S→False:=λ q I af=>by (exact zP q (BI I) af)
  have bp:=bp.mod D' (λ I=>ot _ I rfl);refine fn λ xr jE=> ?_;have jW:=nv.trans (Mod.aP jE);refine br<|aK Z<|aa (hO Z Z)<|bH Z<|cZ Z Z<| ?_;have QA:=QA.later jE;have bp:=bp.later jE;obtain ⟨aR,a1⟩:=an4 hf aD af hs ay Ju ar;exact ⟨a,by rw [aR];rfl,by rw [a1];exact ⟨by simpa [ae.cells] using bp,QA,ia,j8⟩,λ q I=> .inl I,jW⟩
end
theorem aqe (t:a8) (p:ai) (g:Nat) (w:World) (aU:w.cell? ⟨g,0,none⟩=some (.int .i64 p.x)∧w.cell? ⟨g,1,none⟩=some (.int .i64 p.y)):
  Calls prog 168 #[.agg #[.int .i64 t.id, .int .i64 t.owner, .int .i64 t.kind, .int .i64 t.spot.x, .int .i64 t.spot.y, .int .i64 t.df, .int .i64 t.load], .pointer (some ⟨g,0,none⟩)] w λ e w'=>e= .returned (.bool (py p t))∧Below w.heap.size w w':=by
 have af:=kB w (.cells #[.int .i64 t.id, .int .i64 t.owner, .int .i64 t.kind, .int .i64 t.spot.x, .int .i64 t.spot.y, .int .i64 t.df, .int .i64 t.load] 108);obtain ⟨aU,TD⟩:=aU;have bB:=aPW w _ aU;simp only at bB;by_cases h:t.spot=p
 ·have hr:py p t=true:=by unfold py;simp [h]
  rw [hr];subst h;clear hr;go_enter func168,ntmps168;go_wp2_with fail
  go_ret;exact ⟨Z,af⟩
 ·have hr:py p t=false:=by unfold py;simp [h]
  have dF:(t.spot.x == p.x)=false∨((t.spot.x == p.x)=true∧(t.spot.y == p.y)=false):=by
   obtain ⟨_,_,_,⟨a,b⟩,_,_⟩:=t;obtain ⟨c,d⟩:=p;simp at h ⊢;omega
  rw [hr];clear hr h;rcases dF with κ | ⟨κ,τ⟩
  all_goals
   go_enter func168,ntmps168;go_wp2_with fail
   go_ret;exact ⟨hk (by simp_all),af⟩
theorem atC (p:ai) (g:Nat) (A:Option Addr) (c:Nat) (l:List a8) (w:World) (ay:a8.rep.aQ 56 w A c l) (aU:w.cell? ⟨g,0,none⟩=some (.int .i64 p.x)∧w.cell? ⟨g,1,none⟩=some (.int .i64 p.y)):
  Calls prog 165 #[.slice A l.length c, .func (.func 168) #[] #[.pointer (some ⟨g,0,none⟩)]] w λ e w'=>e= .returned (.int .i64 (hi (py p) l))∧Below w.heap.size w w':=by
 obtain ⟨n,hn⟩:∃ n,l.length=n:=⟨_,rfl⟩;have hle:n≤9223372036854775807:=by have:=ay.1;have:=ay.2.1;omega
 rw [hn];have b1:=aNc ay;have jj:=aNc hn;clear ay hn;go_enter func165,ntmps165;go_wp2_with fail
 go_loopw [5,8] (λ _ gM wr=>∃ k:Nat,k≤n∧gM= .int .i64 (k:Int)∧Hid (∀ j (aw:j<k) (jt:j<l.length),(py p) l[j]=false)∧Below w.heap.size w wr) (λ _ gM _=>n - (intOf gM).toNat)
 case atStart=>exact ⟨0,aNQ _,rfl,(λ j aw=>by omega),aNH _ _⟩
 case round =>
  obtain ⟨k,aj,rfl,ji,af⟩:=hrel;by_cases bB:k<n
  ·have nO:k<l.length:=by rw [jj.out];exact bB
   obtain ⟨b,o,rfl,jM⟩:=a8.at_ (b1.out.keep af) (by omega);obtain ⟨x,qm⟩:∃ x,l[k]'nO=x:=⟨_,rfl⟩;obtain ⟨sV,lu,nZ,Ep,O6,UZ,afL⟩:=jM k x (by rw [aM3 nO,qm]);have vu:=aNc qm;have TC:wr.cell? ⟨g,0,none⟩=some (.int .i64 p.x)∧wr.cell? ⟨g,1,none⟩=some (.int .i64 p.y):=⟨cell_later af aU.1,cell_later af aU.2⟩;have hc:=aqe x p g wr TC;clear jM qm;cases jL:(py p) x with
   | true =>
    have kp:hi (py p) l=(k:Int):=JV nO (by rw [vu.out];exact jL) λ j aw=>ji.out j aw (by omega);rw [jL] at hc;have pY:=aNc kp;clear kp jL;go_wp2_with (go_at_call 168;refine hc.mono ?_;rintro e w' ⟨rfl,bq⟩)
    go_ret;exact ⟨by rw [pY.out];rfl,af.trans (bq.mono af.size)⟩
   | false =>
    rw [jL] at hc;have od:Hid (∀ j (aw:j<k+1) (jt:j<l.length),(py p) l[j]=false):=by
     intro j aw jt;by_cases h:j<k
     ·exact ji.out j h jt
     ·obtain rfl:j=k:=by omega
      rw [vu.out];exact jL
    clear jL;go_wp2_with (go_at_call 168;refine hc.mono ?_;rintro e w' ⟨rfl,bq⟩)
    go_roundw
    case rel=>exact ⟨k+1,by omega,by go_num,od,af.trans (bq.mono af.size)⟩
    case measure=>simp [intOf];omega
  ·have kp:hi (py p) l= -1:=GD λ j aw=>ji.out j (by have:=jj.out;omega) aw;have pY:=aNc kp;clear kp;go_wp2_with fail
   go_ret;exact ⟨by rw [pY.out];rfl,af⟩
theorem arl (p:ai) (g:Nat) (A:Option Addr) (c:Nat) (l:List a8) (w:World) (ay:a8.rep.aQ 56 w A c l) (aU:w.cell? ⟨g,0,none⟩=some (.int .i64 p.x)∧w.cell? ⟨g,1,none⟩=some (.int .i64 p.y)):
  Calls prog 167 #[.slice A l.length c, .func (.func 168) #[] #[.pointer (some ⟨g,0,none⟩)]] w λ e w'=>e= .returned (.bool (l.any (py p)))∧Below w.heap.size w w':=by
 have hc:=atC p g A c l w ay aU;rw [← T'];generalize hi (py p) l=r at *
 generalize l.length=n at *
 clear ay aU;go_enter func167,ntmps167;go_wp2_with (go_at_call 165;refine hc.mono ?_;rintro e w' ⟨rfl,bq⟩)
 go_ret;exact ⟨Z,bq⟩
section
variable {p:ai}
theorem zl:dN prog ai.rep 49 98 16:=dN.jz (z:=ai.zero) (k:=2) underlying49 ai.info rfl rfl (by decide) ai.k6
theorem afp {W:ae} {c:ai} (h:W.field.a7=0):((W.field.cH c == 0 && W.field.mb c != 1) && !W.ah.any (py c))=W.Ch c:=by
 unfold ae.Ch av.ground;cases ak:W.field.dV c with
 | false=>rw [(av.It h ak).1];rfl
 | true=>rw [(av.la h ak).1,(av.la h ak).2];rfl
theorem SE {α:Type} {l:List α} {j:Nat} {u:α} (h:j<l.length):l.getD j u=l[j]:=by rw [aM0,aM3 h];rfl
theorem aqi {W:ae} {k:Nat} (aj:k<10) (ju:∀ j,j<k→W.Ch ((ae.around p).getD j default)=false) (h:W.Ch ((ae.around p).getD k default)=true):W.free p=some ((ae.around p).getD k default):=by
 have ay:(ae.around p).length=10:=rfl;unfold ae.free;rw [aPn];refine ⟨h,k,by omega,(SE (by omega)).symm,λ j aw=> ?_⟩;have:=ju j aw;rw [SE (by omega)] at this;simp [this]
theorem aqh {W:ae} (ju:∀ j,j<10→W.Ch ((ae.around p).getD j default)=false):W.free p=none:=by
 have ay:(ae.around p).length=10:=rfl;unfold ae.free;rw [aOl];intro x hx;obtain ⟨j,aw,rfl⟩:=aNZ.1 hx;have:=ju j (by omega);rw [SE aw] at this;simp [this]
theorem aqf (p:ai) (w:World) (aA S:Nat) (a:ae.cW) (W:ae) (h:kS w aA S a W) (ar:Good W) (hp:0≤p.x∧p.x≤100∧0≤p.y∧p.y≤100):
  Calls prog 158 #[.pointer (a_ S), .agg #[γ p.x,γ p.y]] w (λ e w'=>e= .returned (.tuple #[.agg (((W.free p).getD ⟨0,0⟩).cells).toArray, .bool (W.free p).isSome])∧Ext w w'):=by
 have bp:=h.en;have sV:=h.en.lt;have vt:=h.own.T.has;have QB:=h.own.P.has;refine cx (n:=70) func158 Z Z Z ?_;refine fa Z Z λ dk bx bm fQ ag=> ?_;have jd:=ag.lt;refine dn sC Z λ fT dJ bD j' aG=> ?_;have b7:=J bm bD;have qG:=aG.lt;refine aT Z<|aF<| ?_;have ag:=ag.later bD;refine aa (aB Z (ag.all b2 bs))<|b_ (e:= 98) (cs:= [γ p.x,γ p.y]) Z (λ _=>by kernel_rfl) Z λ hX iW b4 rD bJ=> ?_;have cY:=J b7 b4;have yV:=bJ.lt;refine aT Z<|aI<|aF<|aT Z<|bT<|J_ 4<|mm<|aI<|aK Z<|aa (ble Z Z)<|aJ<|gZ Z<|bE<|aI<|bT<| ?_;refine aF<|aT Z<|bT<|J_ 4<|mm<|aI<|aK Z<|aa (ble Z Z)<|aJ<|gZ Z<|bE<|aI<|bT<|rg<|vm Z<|aa (au hE Z)<| ?_;have ag:=ag.later b4;refine bA Z ag a6 Z<|vm Z<|fl Z Z<|aa (au hG Z)<|bA Z ag a6 Z<|vm Z<|fl Z Z<|aa (v:= .agg #[γ (p.x+(-1)),γ (p.y+(-1))]) (hC Z)<|b_ (e:= 98) (cs:= [γ (p.x+(-1)),γ (p.y+(-1))]) Z (λ _=>by kernel_rfl) Z λ qO Yo iH ad7 xN=> ?_;have gU:=J cY iH;have U0:=xN.lt;have bJ:=bJ.later iH;have X4:=aO.Ky (R:=ai.rep) (by_:=16) (B:=w.heap.size) (k:= [p]) bJ [[γ p.x,γ p.y]] rfl (⟨⟨rfl,⟨gl,gl⟩⟩,trivial⟩) (by simp) (by simp) (by decide) (by omega);have GJ:∀ q∈Φ.ab (a_ iW),iW≤q:=λ q I=>aOT (aMZ.1 I).symm;refine ap zl Φ.c6 X4 (aO.fy (R:=ai.rep) (by_:=16) (q:=(⟨p.x+(-1),p.y+(-1)⟩:ai)) xN ⟨Z,⟨gl,gl⟩⟩ (by decide)) Z Z (by first | (simp<;>omega) | omega) (by first | (simp<;>omega) | omega) gU.size Z λ AR Qc aFx iP zD Su aJs=> ?_;have:=iP.size;have mK:=Ext.mod gU iP (λ q I=>(X4.lt q I).1);refine va Z<|nl<|cl<|br<|rg<|vm Z<|aa (q_ (r:=0) Z Z (by decide) (by decide))<|va Z<|nl<|rN<|mm<|aI<|aK Z<|aa (ble Z Z)<|aJ<|gZ Z<|bE<|aI<|bT<|rg<| ?_;refine vm Z<|aa (au hE Z)<| ?_;have ag:=ag.later iH;have MV:∀ q∈Φ.ab (a_ iW),q=bx→False:=λ q I af=>by (have:=GJ q I;omega)
 have ag:=ag.mod iP (λ I=>MV _ I rfl);refine bA Z ag a6 Z<|vm Z<|fl Z Z<|aa (au hG Z)<|bA Z ag a6 Z<|vm Z<|fl Z Z<|aa (v:= .agg #[γ (p.x+0),γ (p.y+(-1))]) (hC Z)<|b_ (e:= 98) (cs:= [γ (p.x+0),γ (p.y+(-1))]) Z (λ _=>by kernel_rfl) Z λ ED aEM jG aIr Xt=> ?_;have o7:=J mK jG;have aKI:=Xt.lt;have zD:=zD.later jG;refine ap zl Φ.c6 zD (aO.fy (R:=ai.rep) (by_:=16) (q:=(⟨p.x+0,p.y+(-1)⟩:ai)) Xt ⟨Z,⟨gl,gl⟩⟩ (by decide)) Z Z (by first | (simp<;>omega) | omega) (by first | (simp<;>omega) | omega) o7.size Z λ EE Qe aFB gj Ff Sx aJA=> ?_;have:=gj.size;have tj:=Ext.mod o7 gj (λ q I=>(zD.lt q I).1);refine va Z<|nl<|cl<|br<|rg<|vm Z<|aa (q_ (r:=1) Z Z (by decide) (by decide))<|va Z<|nl<|rN<|mm<|aI<|aK Z<|aa (ble Z Z)<|aJ<|gZ Z<|bE<|aI<|bT<|rg<| ?_;refine vm Z<|aa (au hE Z)<| ?_;have ag:=ag.later jG;have mQ:∀ q∈Φ.ab Qc,q=bx→False:=λ q I af=>by (exact aNq (Su q I) (λ adR=>by (exact MV q adR af)) (λ adR=>by omega))
 have ag:=ag.mod gj (λ I=>mQ _ I rfl);refine bA Z ag a6 Z<|vm Z<|fl Z Z<|aa (au hG Z)<|bA Z ag a6 Z<|vm Z<|fl Z Z<|aa (v:= .agg #[γ (p.x+1),γ (p.y+(-1))]) (hC Z)<|b_ (e:= 98) (cs:= [γ (p.x+1),γ (p.y+(-1))]) Z (λ _=>by kernel_rfl) Z λ K5 aEU xE aIy Xx=> ?_;have uZ:=J tj xE;have afR:=Xx.lt;have Ff:=Ff.later xE;refine ap zl Φ.c6 Ff (aO.fy (R:=ai.rep) (by_:=16) (q:=(⟨p.x+1,p.y+(-1)⟩:ai)) Xx ⟨Z,⟨gl,gl⟩⟩ (by decide)) Z Z (by first | (simp<;>omega) | omega) (by first | (simp<;>omega) | omega) uZ.size Z λ PJ Qg MD Cc Mb Sz aJF=> ?_;have:=Cc.size;have u':=Ext.mod uZ Cc (λ q I=>(Ff.lt q I).1);refine va Z<|nl<|cl<|br<|rg<|vm Z<|aa (q_ (r:=2) Z Z (by decide) (by decide))<|va Z<|nl<|rN<|mm<|aI<|aK Z<|aa (ble Z Z)<|aJ<|hP Z<|ej<|ei<|eU<|eh<|cl<| ?_;refine br<|rg<|vm Z<|aa (q_ (r:=0) Z Z (by decide) (by decide))<|va Z<|nl<|rN<|mm<|aI<|aK Z<|aa (ble Z Z)<|aJ<|gZ Z<|bE<|aI<|bT<|aF<|va Z<|nl<| ?_;refine br<|bT<|J_ 4<|mm<|aI<|aK Z<|aa (ble Z Z)<|aJ<|gZ Z<|bE<|aI<|bT<|rg<|vm Z<|aa (au hE Z)<| ?_;have ag:=ag.later xE;have Zo:∀ q∈Φ.ab Qe,q=bx→False:=λ q I af=>by (exact aNq (Sx q I) (λ J3=>by (exact mQ q J3 af)) (λ J3=>by omega))
 have ag:=ag.mod Cc (λ I=>Zo _ I rfl);refine bA Z ag a6 Z<|vm Z<|fl Z Z<|aa (au hG Z)<|bA Z ag a6 Z<|vm Z<|fl Z Z<|aa (v:= .agg #[γ (p.x+(-1)),γ (p.y+0)]) (hC Z)<|b_ (e:= 98) (cs:= [γ (p.x+(-1)),γ (p.y+0)]) Z (λ _=>by kernel_rfl) Z λ PN aE2 Lk aIH XA=> ?_;have qV:=J u' Lk;have aKW:=XA.lt;have Mb:=Mb.later Lk;refine ap zl Φ.c6 Mb (aO.fy (R:=ai.rep) (by_:=16) (q:=(⟨p.x+(-1),p.y+0⟩:ai)) XA ⟨Z,⟨gl,gl⟩⟩ (by decide)) Z Z (by first | (simp<;>omega) | omega) (by first | (simp<;>omega) | omega) qV.size Z λ ahy E3 amG nT Md SA aJK=> ?_;have:=nT.size;have Lu:=Ext.mod qV nT (λ q I=>(Mb.lt q I).1);refine va Z<|nl<|cl<|br<|rg<|vm Z<|aa (q_ (r:=0) Z Z (by decide) (by decide))<|va Z<|nl<|rN<|mm<|aI<|aK Z<|aa (ble Z Z)<|aJ<|gZ Z<|bE<|aI<|bT<|rg<| ?_;refine vm Z<|aa (au hE Z)<| ?_;have ag:=ag.later Lk;have Zp:∀ q∈Φ.ab Qg,q=bx→False:=λ q I af=>by (exact aNq (Sz q I) (λ adZ=>by (exact Zo q adZ af)) (λ adZ=>by omega))
 have ag:=ag.mod nT (λ I=>Zp _ I rfl);refine bA Z ag a6 Z<|vm Z<|fl Z Z<|aa (au hG Z)<|bA Z ag a6 Z<|vm Z<|fl Z Z<|aa (v:= .agg #[γ (p.x+0),γ (p.y+0)]) (hC Z)<|b_ (e:= 98) (cs:= [γ (p.x+0),γ (p.y+0)]) Z (λ _=>by kernel_rfl) Z λ ahj aEm o2 aHT Xb=> ?_;have Hr:=J Lu o2;have aJ4:=Xb.lt;have Md:=Md.later o2;refine ap zl Φ.c6 Md (aO.fy (R:=ai.rep) (by_:=16) (q:=(⟨p.x+0,p.y+0⟩:ai)) Xb ⟨Z,⟨gl,gl⟩⟩ (by decide)) Z Z (by first | (simp<;>omega) | omega) (by first | (simp<;>omega) | omega) Hr.size Z λ ahk P9 aFt yN Bn Sq aI9=> ?_;have:=yN.size;have Hs:=Ext.mod Hr yN (λ q I=>(Md.lt q I).1);refine va Z<|nl<|cl<|br<|rg<|vm Z<|aa (q_ (r:=1) Z Z (by decide) (by decide))<|va Z<|nl<|rN<|mm<|aI<|aK Z<|aa (ble Z Z)<|aJ<|gZ Z<|bE<|aI<|bT<|rg<| ?_;refine vm Z<|aa (au hE Z)<| ?_;have ag:=ag.later o2;have IH:∀ q∈Φ.ab E3,q=bx→False:=λ q I af=>by (exact aNq (SA q I) (λ JY=>by (exact Zp q JY af)) (λ JY=>by omega))
 have ag:=ag.mod yN (λ I=>IH _ I rfl);refine bA Z ag a6 Z<|vm Z<|fl Z Z<|aa (au hG Z)<|bA Z ag a6 Z<|vm Z<|fl Z Z<|aa (v:= .agg #[γ (p.x+1),γ (p.y+0)]) (hC Z)<|b_ (e:= 98) (cs:= [γ (p.x+1),γ (p.y+0)]) Z (λ _=>by kernel_rfl) Z λ aAR aEs Le aHZ Xf=> ?_;have P3:=J Hs Le;have aKa:=Xf.lt;have Bn:=Bn.later Le;refine ap zl Φ.c6 Bn (aO.fy (R:=ai.rep) (by_:=16) (q:=(⟨p.x+1,p.y+0⟩:ai)) Xf ⟨Z,⟨gl,gl⟩⟩ (by decide)) Z Z (by first | (simp<;>omega) | omega) (by first | (simp<;>omega) | omega) P3.size Z λ aAT P_ aFu Ka L5 Sr aJc=> ?_;have:=Ka.size;have Wv:=Ext.mod P3 Ka (λ q I=>(Bn.lt q I).1);refine va Z<|nl<|cl<|br<|rg<|vm Z<|aa (q_ (r:=2) Z Z (by decide) (by decide))<|va Z<|nl<|rN<|mm<|aI<|aK Z<|aa (ble Z Z)<|aJ<|hP Z<|ej<|ei<|eU<|eh<|cl<| ?_;refine br<|rg<|vm Z<|aa (q_ (r:=1) Z Z (by decide) (by decide))<|va Z<|nl<|rN<|mm<|aI<|aK Z<|aa (ble Z Z)<|aJ<|gZ Z<|bE<|aI<|bT<|aF<|va Z<|nl<| ?_;refine br<|bT<|J_ 4<|mm<|aI<|aK Z<|aa (ble Z Z)<|aJ<|gZ Z<|bE<|aI<|bT<|rg<|vm Z<|aa (au hE Z)<| ?_;have ag:=ag.later Le;have Y3:∀ q∈Φ.ab P9,q=bx→False:=λ q I af=>by (exact aNq (Sq q I) (λ J1=>by (exact IH q J1 af)) (λ J1=>by omega))
 have ag:=ag.mod Ka (λ I=>Y3 _ I rfl);refine bA Z ag a6 Z<|vm Z<|fl Z Z<|aa (au hG Z)<|bA Z ag a6 Z<|vm Z<|fl Z Z<|aa (v:= .agg #[γ (p.x+(-1)),γ (p.y+1)]) (hC Z)<|b_ (e:= 98) (cs:= [γ (p.x+(-1)),γ (p.y+1)]) Z (λ _=>by kernel_rfl) Z λ aAW Ym n8 aug xM=> ?_;have P4:=J Wv n8;have aKd:=xM.lt;have L5:=L5.later n8;refine ap zl Φ.c6 L5 (aO.fy (R:=ai.rep) (by_:=16) (q:=(⟨p.x+(-1),p.y+1⟩:ai)) xM ⟨Z,⟨gl,gl⟩⟩ (by decide)) Z Z (by first | (simp<;>omega) | omega) (by first | (simp<;>omega) | omega) P4.size Z λ aLQ P' aFv Kc L6 Ss aJf=> ?_;have:=Kc.size;have aCg:=Ext.mod P4 Kc (λ q I=>(L5.lt q I).1);refine va Z<|nl<|cl<|br<|rg<|vm Z<|aa (q_ (r:=0) Z Z (by decide) (by decide))<|va Z<|nl<|rN<|mm<|aI<|aK Z<|aa (ble Z Z)<|aJ<|gZ Z<|bE<|aI<|bT<|rg<| ?_;refine vm Z<|aa (au hE Z)<| ?_;have ag:=ag.later n8;have Y5:∀ q∈Φ.ab P_,q=bx→False:=λ q I af=>by (exact aNq (Sr q I) (λ J2=>by (exact Y3 q J2 af)) (λ J2=>by omega))
 have ag:=ag.mod Kc (λ I=>Y5 _ I rfl);refine bA Z ag a6 Z<|vm Z<|fl Z Z<|aa (au hG Z)<|bA Z ag a6 Z<|vm Z<|fl Z Z<|aa (v:= .agg #[γ (p.x+0),γ (p.y+1)]) (hC Z)<|b_ (e:= 98) (cs:= [γ (p.x+0),γ (p.y+1)]) Z (λ _=>by kernel_rfl) Z λ aLU aEz Lf aH9 Xm=> ?_;have ahU:=J aCg Lf;have aKi:=Xm.lt;have L6:=L6.later Lf;refine ap zl Φ.c6 L6 (aO.fy (R:=ai.rep) (by_:=16) (q:=(⟨p.x+0,p.y+1⟩:ai)) Xm ⟨Z,⟨gl,gl⟩⟩ (by decide)) Z Z (by first | (simp<;>omega) | omega) (by first | (simp<;>omega) | omega) ahU.size Z λ aLZ W0 aFw OI L8 aaN aJi=> ?_;have aCo:=Ext.mod ahU OI (λ q I=>(L6.lt q I).1);refine va Z<|nl<|cl<|br<|rg<|vm Z<|aa (q_ (r:=1) Z Z (by decide) (by decide))<|va Z<|nl<|rN<|mm<|aI<|aK Z<|aa (ble Z Z)<|aJ<|gZ Z<|bE<|aI<|bT<|rg<| ?_;refine vm Z<|aa (au hE Z)<| ?_;have ag:=ag.later Lf;have anr:∀ q∈Φ.ab P',q=bx→False:=λ q I af=>by (exact aNq (Ss q I) (λ acO=>by (exact Y5 q acO af)) (λ acO=>by omega))
 have ag:=ag.mod OI (λ I=>anr _ I rfl);refine bA Z ag a6 Z<|vm Z<|fl Z Z<|aa (au hG Z)<|bA Z ag a6 Z<|vm Z<|fl Z Z<|aa (v:= .agg #[γ (p.x+1),γ (p.y+1)]) (hC Z)<|b_ (e:= 98) (cs:= [γ (p.x+1),γ (p.y+1)]) Z (λ _=>by kernel_rfl) Z λ aA3 aEC PX aId ai5=> ?_;have Hu:=J aCo PX;have L8:=L8.later PX;refine ap zl Φ.c6 L8 (aO.fy (R:=ai.rep) (by_:=16) (q:=(⟨p.x+1,p.y+1⟩:ai)) ai5 ⟨Z,⟨gl,gl⟩⟩ (by decide)) Z Z (by first | (simp<;>omega) | omega) (by first | (simp<;>omega) | omega) Hu.size Z λ aL4 Qa YP UB xZ aFX aJk=> ?_;have aCt:=Ext.mod Hu UB (λ q I=>(L8.lt q I).1);refine va Z<|nl<|cl<|br<|rg<|vm Z<|aa (q_ (r:=2) Z Z (by decide) (by decide))<|va Z<|nl<|rN<|mm<|aI<|aK Z<|aa (ble Z Z)<|aJ<|hP Z<|ej<|ei<|eU<|eh<|cl<| ?_;refine br<|rg<|vm Z<|aa (q_ (r:=2) Z Z (by decide) (by decide))<|va Z<|nl<|rN<|mm<|aI<|aK Z<|aa (ble Z Z)<|aJ<|hP Z<|ej<|ei<|eU<|eh<|br<|aI<|aF<| ?_;refine vm Z<|aa (dr underlying49 Z)<|vm Z<|aJ<|bT<| ?_;have Aa: [p]++ [(⟨p.x+(-1),p.y+(-1)⟩:ai)]++ [(⟨p.x+0,p.y+(-1)⟩:ai)]++ [(⟨p.x+1,p.y+(-1)⟩:ai)]++ [(⟨p.x+(-1),p.y+0⟩:ai)]++ [(⟨p.x+0,p.y+0⟩:ai)]++ [(⟨p.x+1,p.y+0⟩:ai)]++ [(⟨p.x+(-1),p.y+1⟩:ai)]++ [(⟨p.x+0,p.y+1⟩:ai)]++ [(⟨p.x+1,p.y+1⟩:ai)]=(ae.around p):=by simp [ae.around,Int.sub_eq_add_neg]
 rw [Aa] at xZ;have bp:=bp.later (J bm (J bD (J b4 iH)));have Y6:∀ q∈Φ.ab (a_ iW),q=S→False:=λ q I af=>by (have:=GJ q I;omega)
 have bp:=(bp.mod iP (λ I=>Y6 _ I rfl)).later jG;have Y7:∀ q∈Φ.ab Qc,q=S→False:=λ q I af=>by (exact aNq (Su q I) (λ acQ=>by (exact Y6 q acQ af)) (λ acQ=>by omega))
 have bp:=(bp.mod gj (λ I=>Y7 _ I rfl)).later xE;have Y8:∀ q∈Φ.ab Qe,q=S→False:=λ q I af=>by (exact aNq (Sx q I) (λ acR=>by (exact Y7 q acR af)) (λ acR=>by omega))
 have bp:=(bp.mod Cc (λ I=>Y8 _ I rfl)).later Lk;have Y9:∀ q∈Φ.ab Qg,q=S→False:=λ q I af=>by (exact aNq (Sz q I) (λ acS=>by (exact Y8 q acS af)) (λ acS=>by omega))
 have bp:=(bp.mod nT (λ I=>Y9 _ I rfl)).later o2;have Y_:∀ q∈Φ.ab E3,q=S→False:=λ q I af=>by (exact aNq (SA q I) (λ acT=>by (exact Y9 q acT af)) (λ acT=>by omega))
 have bp:=(bp.mod yN (λ I=>Y_ _ I rfl)).later Le;have Y':∀ q∈Φ.ab P9,q=S→False:=λ q I af=>by (exact aNq (Sq q I) (λ acU=>by (exact Y_ q acU af)) (λ acU=>by omega))
 have bp:=(bp.mod Ka (λ I=>Y' _ I rfl)).later n8;have Za:∀ q∈Φ.ab P_,q=S→False:=λ q I af=>by (exact aNq (Sr q I) (λ acV=>by (exact Y' q acV af)) (λ acV=>by omega))
 have bp:=(bp.mod Kc (λ I=>Za _ I rfl)).later Lf;have Zb:∀ q∈Φ.ab P',q=S→False:=λ q I af=>by (exact aNq (Ss q I) (λ acW=>by (exact Za q acW af)) (λ acW=>by omega))
 have bp:=(bp.mod OI (λ I=>Zb _ I rfl)).later PX;have ant:∀ q∈Φ.ab W0,q=S→False:=λ q I af=>by (exact aNq (aaN q I) (λ acX=>by (exact Zb q acX af)) (λ acX=>by omega))
 have bp:=bp.mod UB (λ I=>ant _ I rfl);have aG:=aG.later (J b4 iH);have Zc:∀ q∈Φ.ab (a_ iW),q=dJ→False:=λ q I af=>by (have:=GJ q I;omega)
 have aG:=(aG.mod iP (λ I=>Zc _ I rfl)).later jG;have Zd:∀ q∈Φ.ab Qc,q=dJ→False:=λ q I af=>by (exact aNq (Su q I) (λ acY=>by (exact Zc q acY af)) (λ acY=>by omega))
 have aG:=(aG.mod gj (λ I=>Zd _ I rfl)).later xE;have Ze:∀ q∈Φ.ab Qe,q=dJ→False:=λ q I af=>by (exact aNq (Sx q I) (λ acZ=>by (exact Zd q acZ af)) (λ acZ=>by omega))
 have aG:=(aG.mod Cc (λ I=>Ze _ I rfl)).later Lk;have Zf:∀ q∈Φ.ab Qg,q=dJ→False:=λ q I af=>by (exact aNq (Sz q I) (λ ac0=>by (exact Ze q ac0 af)) (λ ac0=>by omega))
 have aG:=(aG.mod nT (λ I=>Zf _ I rfl)).later o2;have Zg:∀ q∈Φ.ab E3,q=dJ→False:=λ q I af=>by (exact aNq (SA q I) (λ ac1=>by (exact Zf q ac1 af)) (λ ac1=>by omega))
 have aG:=(aG.mod yN (λ I=>Zg _ I rfl)).later Le;have Zh:∀ q∈Φ.ab P9,q=dJ→False:=λ q I af=>by (exact aNq (Sq q I) (λ ac3=>by (exact Zg q ac3 af)) (λ ac3=>by omega))
 have aG:=(aG.mod Ka (λ I=>Zh _ I rfl)).later n8;have Zi:∀ q∈Φ.ab P_,q=dJ→False:=λ q I af=>by (exact aNq (Sr q I) (λ ac4=>by (exact Zh q ac4 af)) (λ ac4=>by omega))
 have aG:=(aG.mod Kc (λ I=>Zi _ I rfl)).later Lf;have Zj:∀ q∈Φ.ab P',q=dJ→False:=λ q I af=>by (exact aNq (Ss q I) (λ ac5=>by (exact Zi q ac5 af)) (λ ac5=>by omega))
 have aG:=(aG.mod OI (λ I=>Zj _ I rfl)).later PX;have anv:∀ q∈Φ.ab W0,q=dJ→False:=λ q I af=>by (exact aNq (aaN q I) (λ ac6=>by (exact Zj q ac6 af)) (λ ac6=>by omega))
 have aG:=aG.mod UB (λ I=>anv _ I rfl);refine gi (λ cJ cu aV=>∃ k:Nat,cu= [(0, .pointer (a_ S)),(4, .pointer (a_ dJ)),(35, .slice Qa ((ae.around p).length) YP),(36,γ 10),(37,γ (k:Int))]∧cJ=10 - k∧Ext w aV∧aO aV S (ae.cells a W) 189 (0,0)∧aO aV dJ [γ 0,γ 0] 98 (0,0)∧ai.rep.aM 98 16 aV w.heap.size (Φ.ab Qa) Qa YP ((ae.around p))∧(k≤10)∧(∀ j,j<k→W.Ch ((ae.around p).getD j default)=false)) _ _ ⟨0,Z,Z,aCt,bp,aG,xZ,by omega,λ j aw=>absurd aw (by omega)⟩ (.cons Z (.cons Z (.cons Z (.cons (rE Z) (eS Z Z Z))))) ?_;rintro aIV aDF aL8 ⟨k,rfl,rfl,ahV,bp,aG,xZ,aj,ju⟩;have aKo:=bp.lt;have aKp:=aG.lt;have aAv:=bZ xZ.lt;refine aF<|fB Z Z<|aJ<|aI<| ?_;refine fH Z (λ aq5=> ?_) (λ aq5=> ?_)
 ·refine bE<|aI<|bT<|aF<|aa (bX k underlying49 bs Z Z (xZ.has.bw (aZ k (by show k<10;omega))) Z (by show k<10;omega))<|aa (aB Z (Φ.aQ.jJ wh (by rw [← xZ.has.bw (aZ k (by show k<10;omega))];exact xZ.has) (cj (l:=(ae.around p)) (u:=default) (by show k<10;omega)) b2 bs))<|dn sC Z λ aA6 Re n_ auk o8=> ?_;have WI:=J ahV n_;refine c9 Z Z o8 Z bs Z Z λ aMi Kd o8=> ?_;have ahX:=Ext.mod WI Kd bF;refine aJ<|aI<| ?_;refine dw [(4,0),(5,0),(6,0)] [0,1,2,3,4,5,6,7,8,9,10,11] ?_;refine bn Z Z<|ax Z (λ _=>b3 Z)<|ax Z (λ _=>au mg Z)<|ax Z (λ _=>au p7 Z)<| ?_;have bp:=(bp.later n_).mod Kd aY;refine cS Z (λ _ x=>aB Z ((bp.later x).par [γ W.field.wide,γ W.field.high, .slice a.P W.field.places.length a.p] hb gD Z))<|cS Z (λ _ x=>aB Z ((o8.later x).all b2 bs))<|rk Z Z pg Z (λ _ x=>Sg W.field ((ae.around p).getD k default) a.P a.p _ (QB.keep (ahX.n4 x))) Z<|bn Z Z<|ax Z (λ _=>ex Z Z)<|ax Z (λ _=>ex Z Z)<|ax Z (λ _=>eV Z)<|ax Z (λ _=>eV Z)<|fn λ aMl Lg=> ?_;have ahY:=J ahX Lg;refine br<|aK Z<|aa (beq Z Z)<|vm Z<|fS Z Z<|b9 Z (λ hc=>bne (gt hc Z) Z)<|aa (eZ Z Z Z Z)<|vm Z<|fS Z Z<|b9 Z (λ hc=>b3 (gt hc Z))<|b9 Z (λ hc=>au mg (gt hc Z))<|b9 Z (λ hc=>au kk (gt hc Z))<| ?_;have bp:=bp.later Lg;refine b9 Z (λ hc=>aB (gt hc Z) (bp.one mh Z))<|b9 Z (λ hc=>Ko Z Z)<| ?_;have o8:=o8.later Lg;refine s0 Z aoo (λ hc=>fO (gt hc Z) (fO (gt hc Z) Z)) (λ hc=>arl ((ae.around p).getD k default) Re a.T a.t W.ah _ (vt.keep ahY) ⟨o8.cell 0,o8.cell 1⟩) λ aMm Lh=> ?_;have ahZ:=J ahY Lh;refine b9 Z (λ hc=>dD (gt hc Z))<|aa (eZ Z Z Z Z)<|aJ<| ?_;refine c1 Z (λ S0=> ?_) (λ S0=> ?_)
  ·rw [afp ar.field] at S0;refine aF<| ?_;have o8:=o8.later Lh;refine aa (aB Z (o8.all b2 bs))<| ?_;have aG:=((aG.later n_).mod Kd aY).later (J Lg Lh);refine c9 Z Z aG Z bs Z Z λ aMp avQ aG=> ?_;have aCJ:=Ext.mod ahZ avQ bF;refine bH Z<|hq<|cU<|Ey<|hq<|cU<|dS (.cell Z (aG.all b2 bs) (.tmp Z .nil))<| ?_;exact ⟨by rw [aqi (by omega) ju ‹_›];rfl,aCJ⟩
  ·rw [afp ar.field] at S0;refine fZ<|cl<|eR Z Z Z<| ?_;have bp:=bp.later Lh;have dW:=(J Lg Lh);have aG:=((aG.later n_).mod Kd aY).later dW;have xZ:=((xZ.later n_).mod Kd (bl aAv)).later dW;exact eX ⟨k+1,Z,Z,ahZ,bp,aG,xZ,by omega,D3 ju (by assumption)⟩
 ·refine ej<|ei<|eU<|eh<|br<|aF<|aa (v:= .agg #[γ 0,γ 0]) (hC Z)<|c9 Z Z aG Z bs Z Z λ aA7 avR aG=> ?_;have WJ:=Ext.mod ahV avR bF;refine bH Z<|dS (.cell Z (aG.all b2 bs) (.tmp Z .nil))<| ?_;exact ⟨by rw [aqh (λ j aw=>ju j (by omega))];rfl,WJ⟩
end
section
variable {d:dc} {c:ai}
theorem ajw:dN prog a8.rep 50 108 56:=dN.jz (z:=a8.zero) (k:=7) underlying50 a8.info rfl rfl (by decide) a8.k6
theorem axS (k:Int):0≤ae.k1 k∧ae.k1 k≤12:=by unfold ae.k1;split<;>(try split)<;>omega
theorem avc (k:Int):0≤ae.hj k∧ae.hj k≤20:=by unfold ae.hj;split<;>(try split)<;>omega
theorem ad1 {k:Int}:(qo k != 0)= !cM k 1 2:=by
 unfold qo;by_cases κ:k=1
 ·subst κ;rfl
 ·by_cases τ:k=2
  ·subst τ;rfl
  ·rw [aM4 κ,aM4 τ,oL (by omega)];rfl
theorem ar5 {W:ae} (ar:Good W) (h:(((((decide (d.bf<0) || decide ((W.bj.length:Int)≤d.bf)) || qo d.what != 0) || decide (W.bh.getD d.bf.toNat 0<ae.k1 d.what)) || decide (100≤(W.ah.length:Int))) || decide (1000000≤W.next))=false):
  0≤d.bf∧d.bf<(W.bj.length:Int)∧cM d.what 1 2=true∧ae.k1 d.what≤W.bh.getD d.bf.toNat 0∧W.ah.length<100∧W.next<1000000:=by
 simp only [aNO,aM7,ad1,aPD] at h;obtain ⟨⟨⟨⟨⟨κ,τ⟩,aq⟩,bb⟩,bV⟩,cy⟩:=h;exact ⟨by omega,by omega,aq,by omega,by omega,by omega⟩
theorem abU {W:ae} (ar:Good W) (h:(((((decide (d.bf<0) || decide ((W.bj.length:Int)≤d.bf)) || qo d.what != 0) || decide (W.bh.getD d.bf.toNat 0<ae.k1 d.what)) || decide (100≤(W.ah.length:Int))) || decide (1000000≤W.next))=true):W.qi d=none:=by
 unfold ae.qi;rw [aM4];intro hc;simp only [aNa,aM8] at hc;obtain ⟨⟨⟨⟨bd,bM⟩,c3⟩,c4⟩,c5⟩:=hc;have bd:=jw bd;simp only [ad1,bM,aNG,aM8,aPa,aNR,aPi] at h;omega
theorem abT {W:ae} (κ:0≤d.bf) (τ:d.bf<(W.bj.length:Int)) (aq:cM d.what 1 2=true) (bb:ae.k1 d.what≤W.bh.getD d.bf.toNat 0) (bV:W.ah.length<100) (cy:W.next<1000000):
  (cM d.bf 0 ((W.bj.length:Int) - 1) && cM d.what 1 2 && decide (ae.k1 d.what≤W.bh.getD d.bf.toNat 0) && decide (W.ah.length<100) && decide (W.next<1000000))=true:=by
 rw [ml κ (by omega),aq,aNp bb,aNp bV,aNp cy];rfl
theorem abV {W:ae} (κ:0≤d.bf) (τ:d.bf<(W.bj.length:Int)) (aq:cM d.what 1 2=true) (bb:ae.k1 d.what≤W.bh.getD d.bf.toNat 0) (bV:W.ah.length<100) (cy:W.next<1000000) (h:(!(W.free (W.bj.getD d.bf.toNat default)).isSome)=true):W.qi d=none:=by
 unfold ae.qi;simp only [abT κ τ aq bb bV cy,aOB];rw [aOa,Option.isSome_eq_false_iff,Option.isNone_iff_eq_none] at h;rw [h]
theorem ar4 {W:ae} (κ:0≤d.bf) (τ:d.bf<(W.bj.length:Int)) (aq:cM d.what 1 2=true) (bb:ae.k1 d.what≤W.bh.getD d.bf.toNat 0) (bV:W.ah.length<100) (cy:W.next<1000000) (hc:(W.free (W.bj.getD d.bf.toNat default)).getD ⟨0,0⟩=c) (h:(!(W.free (W.bj.getD d.bf.toNat default)).isSome)=false):
  W.qi d=some {W with ah:=W.ah++ [⟨W.next,d.bf,d.what,c,ae.hj d.what,0⟩],next:=W.next+1,bh:=W.bh.set d.bf.toNat (W.bh.getD d.bf.toNat 0 - ae.k1 d.what)}:=by
 unfold ae.qi;simp only [abT κ τ aq bb bV cy,aOB];cases hf:W.free (W.bj.getD d.bf.toNat default) with
 | none=>rw [hf] at h;cases h
 | some cn=>rw [hf] at hc;obtain rfl:cn=c:=hc;rfl
theorem ar3 {W:ae} (ar:Good W) (κ:0≤d.bf) (τ:d.bf<(W.bj.length:Int)):(0≤(W.bj.getD d.bf.toNat default).x∧(W.bj.getD d.bf.toNat default).x≤100∧0≤(W.bj.getD d.bf.toNat default).y∧(W.bj.getD d.bf.toNat default).y≤100)∧d.bf.toNat<W.bj.length:=by
 have bB:d.bf.toNat<W.bj.length:=by omega
 have:=(ar.bj _ _ (cj (u:=default) bB)).1;obtain ⟨i1,i2,i3,i4,i5,i6⟩:=av.idx ar.field (av.jr this);obtain ⟨uY,qU,s8,s9,_,_⟩:=av.hg ar.field;exact ⟨⟨by omega,by omega,by omega,by omega⟩,bB⟩
theorem aqg {W:ae} {p:ai} (hp:0≤p.x∧p.x≤100∧0≤p.y∧p.y≤100) (hc:(W.free p).getD ⟨0,0⟩=c): -1≤c.x∧c.x≤101∧ -1≤c.y∧c.y≤101:=by
 cases hf:W.free p with
 | none=>rw [hf] at hc;subst hc;decide
 | some q =>
  rw [hf] at hc;obtain rfl:q=c:=hc;have:=aPG hf;simp only [ae.around,aNg,aOx,aPi] at this;rcases this with rfl | rfl | rfl | rfl | rfl | rfl | rfl | rfl | rfl | rfl<;>(try dsimp only)<;>omega
theorem ar1 (d:dc) (w:World) (aA S:Nat) (a:ae.cW) (W:ae) (h:kS w aA S a W) (ar:Good W):
  Calls prog 145 #[.pointer (a_ S), .agg #[γ d.kind,γ d.bf,γ d.spot.x,γ d.spot.y,γ d.what]] w (vH W (W.qi d) w aA S a):=by
 have yF:=ar.sl;have j8:=h.low;have ia:=h.far;have sV:=h.en.lt;have bp:=h.en;have bc:=h.own;have fA:=bZ bc.lt;have zP:∀ q∈bt.cA a,q=S→False:=λ q I af=>ia (af ▸ I);refine cx (n:=126) func145 Z Z Z ?_;refine fa Z Z λ xq C' nr Ou fE=> ?_;have kQ:=(Mod.bN (S::bt.cA a) w).trans (Mod.aP nr);have aKR:=fE.lt;refine aT Z<|aF<|aa (au ZU Z)<|bA Z fE a6 Z<|c0 Ng Z (Oq d.what _) λ uG bD=> ?_;have:=bD.size;have jh:=kQ.trans (Mod.aP bD);refine vm Z<|b0 Z Z<|b0 Z Z<|dn Nh Z λ xp zH d_ auh oc=> ?_;have iU:=jh.trans (Mod.aP d_);have afN:=oc.lt;refine c9 Z Z oc Z Ni Z Z λ qN oO oc=> ?_;have:=oO.size;have l3:=iU.md oO (λ q I=> .inr (by have:=aMZ.1 I;omega));refine aT Z<|aI<|aI<| ?_;refine dw [(1,0),(5,0),(10,0),(23,0),(25,0),(27,0),(29,0),(37,0),(46,0)] [0,1,2,3,4,5,6,7,8,9,10,11,12,13,14,15,16,17,18,19,20,21,22,23,24,25,26,27,28,29,30,31,32,33,34,35,36,37,38,39,40,41,42,43,44,45,46,47,48] ?_;refine ax Z (λ _=>au yl Z)<| ?_;have fE:=(fE.later (J bD d_)).mod oO aY;refine cP Z Z fE a6 Z<|ax Z (λ _=>blt Z Z)<|bn Z Z<|bR Z Z (λ hc _=>au yl Z)<|dE Z Z (λ hc _ x=>aB (gt hc Z) ((fE.later x).one a6 Z))<|eQ Z Z Z<|bR Z Z (λ hc _=>b3 (gt hc Z))<|bR Z Z (λ hc _=>au mg (gt hc Z))<|bR Z Z (λ hc _=>au sD (gt hc Z))<| ?_;have bp:=(bp.later (J nr (J bD d_))).mod oO aY;refine dE Z Z (λ hc _ x=>aB (gt hc Z) ((bp.later x).one yo Z))<|bR Z Z (λ hc _=>dr underlying49 (gt hc Z))<|bR Z Z (λ hc _=>ld (gt hc Z) (gt hc Z))<|ax Z (λ _=>gv Z Z Z Z)<|bn Z Z<|eQ Z Z Z<|bR Z Z (λ hc _=>bne (gt hc Z) Z)<|ax Z (λ _=>gv Z Z Z Z)<|bn Z Z<|eQ Z Z Z<|bR Z Z (λ hc _=>b3 (gt hc Z))<|bR Z Z (λ hc _=>au mg (gt hc Z))<|bR Z Z (λ hc _=>au tL (gt hc Z))<|dE Z Z (λ hc _ x=>aB (gt hc Z) ((bp.later x).one fI Z))<|bR Z Z (λ hc _=>au yl Z)<|dE Z Z (λ hc _ x=>aB (gt hc Z) ((fE.later x).one a6 Z))<| ?_;have bc:=(bc.later (J nr (J bD d_))).mod oO (bl fA);refine bR Z Z (λ hc _=>bX d.bf.toNat underlying46 cr (gt hc Z) (gt hc Z) (bc.S.has.bw (aZ d.bf.toNat (by (try simp only [cq] at hc);omega))) (by (try simp only [cq] at hc);omega) (by (try simp only [cq] at hc);omega))<|dE Z Z (λ hc _ x=>aB (gt hc Z) (Φ.aQ.dj dA (by rw [← (bc.later x).S.has.bw (aZ d.bf.toNat (by (try simp only [cq] at hc);omega))];exact (bc.later x).S.has) (cj (l:=W.bh) (u:=0) (by (try simp only [cq] at hc);omega)) Z a6))<|bR Z Z (λ hc _=>au ZV Z)<|dE Z Z (λ hc _ x=>aB (gt hc Z) ((oc.later x).one a6 Z))<|bR Z Z (λ hc _=>blt (gt hc Z) (gt hc Z))<|ax Z (λ _=>gv Z Z Z Z)<|bn Z Z<|eQ Z Z Z<|bR Z Z (λ hc _=>b3 (gt hc Z))<|bR Z Z (λ hc _=>au mg (gt hc Z))<|bR Z Z (λ hc _=>au kk (gt hc Z))<|dE Z Z (λ hc _ x=>aB (gt hc Z) ((bp.later x).one mh Z))<|bR Z Z (λ hc _=>dr underlying50 (gt hc Z))<|bR Z Z (λ hc _=>ld (gt hc Z) Z)<|ax Z (λ _=>gv Z Z Z Z)<|bn Z Z<|eQ Z Z Z<|bR Z Z (λ hc _=>b3 (gt hc Z))<|bR Z Z (λ hc _=>au mg (gt hc Z))<|bR Z Z (λ hc _=>au BD (gt hc Z))<|dE Z Z (λ hc _ x=>aB (gt hc Z) ((bp.later x).one a6 Z))<|bR Z Z (λ hc _=>ld (gt hc Z) Z)<|ax Z (λ _=>gv Z Z Z Z)<|fn λ Hf iH=> ?_;have:=iH.size;have nu:=l3.trans (Mod.aP iH);refine br<| ?_;refine c1 Z (λ wa=> ?_) (λ wa=> ?_)
 ·refine aF<|bH Z<|cU<|cZ Z Z<| ?_;have bp:=bp.later iH;have bc:=bc.later iH;exact ⟨a,by rw [abU ar wa];rfl,by rw [abU ar wa];exact ⟨bp,bc,ia,j8⟩,λ q I=> .inl I,nu⟩
 ·obtain ⟨κ,τ,aq,bb,bV,cy⟩:=ar5 ar wa;obtain ⟨oG,bB⟩:=ar3 ar κ τ;have ja:=ar.bh _ _ (cj (u:=0) (l:=W.bh) (j:=d.bf.toNat) (by omega));obtain ⟨c,hc⟩:∃ c,(W.free (W.bj.getD d.bf.toNat default)).getD ⟨0,0⟩=c:=⟨_,rfl⟩;have aG5:=axS d.what;have aHm:=jw aq;have tU:=ar.next;have DD:=ar.gX;have aGi:=aqg oG hc;refine bE<|aI<| ?_;refine dw [(5,0),(7,0),(9,0),(10,0),(14,2),(15,3)] [0,1,2,3,4,5,6,7,8,9,10,11,12,13,14,15,16] ?_;refine bn Z Z<|bn Z Z<|ax Z (λ _=>b3 Z)<|ax Z (λ _=>au mg Z)<|ax Z (λ _=>au sD Z)<| ?_;have bp:=bp.later iH;refine cP Z Z bp yo Z<|ax Z (λ _=>au yl Z)<| ?_;have fE:=fE.later iH;refine cP Z Z fE a6 Z<| ?_;have bc:=bc.later iH;refine ax Z (λ _=>bX d.bf.toNat underlying49 bs Z Z (bc.B.has.bw (aZ d.bf.toNat)) (by omega) (by omega))<|cS Z (λ _ x=>aB Z (Φ.aQ.jJ wh (by rw [← (bc.later x).B.has.bw (aZ d.bf.toNat)];exact (bc.later x).B.has) (cj (l:=W.bj) (u:=default) (by omega)) b2 bs))<|rk Z Z aop Z (λ _ x=>aqf (W.bj.getD d.bf.toNat default) _ aA S a W (⟨(bp.later x),(bc.later x),ia,j8⟩) ar oG) Z<|bn Z Z<|ax Z (λ _=>ex Z Z)<|ax Z (λ _=>ex Z Z)<|fW Z Z Z λ EB fC Q hK=>dn sC Z λ AP aEF lY aIi E5=>hK _ _ ⟨J fC lY, ?_⟩;have:=fC.size;have l5:=nu.trans (Mod.aP fC);have nw:=l5.trans (Mod.aP lY);have aya:=E5.lt;refine dC Z Z Z λ xr jE Q hK=>st Z Z (E5.later jE) Z bs Z Z Z λ s4 lr E5=>hK _ _ ?_;have:=jE.size;have jW:=nw.trans (Mod.aP jE);have:=lr.size;have k4:=jW.md lr (λ q I=> .inr (by have:=aMZ.1 I;omega));refine ax Z (λ _=>eV Z)<|fn λ V5 jG=> ?_;have:=jG.size;have td:=k4.trans (Mod.aP jG);refine br<|aI<|aK Z<|aa (dD Z)<|aJ<| ?_;refine c1 Z (λ NT=> ?_) (λ NT=> ?_)
  ·refine aF<|bH Z<|cU<|cZ Z Z<| ?_;have dW:=uw (ua (J fC (J lY jE)) lr) jG;have bp:=bp.mod dW aY;have bc:=bc.mod dW (bl fA);exact ⟨a,by rw [abV κ τ aq bb bV cy NT];rfl,by rw [abV κ τ aq bb bV cy NT];exact ⟨bp,bc,ia,j8⟩,λ q I=> .inl I,td⟩
  ·refine bE<|aI<| ?_;refine dw [(5,0),(10,0),(12,0),(14,0),(15,0),(17,0),(19,2),(20,3),(24,3)] [0,1,2,3,4,5,6,7,8,9,10,11,12,13,14,15,16,17,18,19,20,21,22,23,24] ?_;refine bn Z Z<|bn Z Z<|ax Z (λ _=>b3 Z)<|ax Z (λ _=>au mg Z)<|ax Z (λ _=>au kk Z)<| ?_;have bp:=((bp.later (J fC (J lY jE))).mod lr aY).later jG;refine cP Z Z bp mh Z<|bn Z Z<|ax Z (λ _=>b3 Z)<|ax Z (λ _=>au mg Z)<|ax Z (λ _=>au BD Z)<|cP Z Z bp a6 Z<|ax Z (λ _=>au yl Z)<| ?_;have fE:=((fE.later (J fC (J lY jE))).mod lr aY).later jG;refine cP Z Z fE a6 Z<|ax Z (λ _=>au ZU Z)<|cP Z Z fE a6 Z<| ?_;have E5:=E5.later jG;refine cS Z (λ _ x=>aB Z ((E5.later x).all b2 bs))<|ax Z (λ _=>au ZW Z)<| ?_;have oc:=((oc.later (J iH (J fC (J lY jE)))).mod lr aY).later jG;refine cP Z Z oc a6 Z<|kn (v:= .agg #[γ W.next,γ d.bf,γ d.what,γ ((((W.free (W.bj.getD d.bf.toNat default)).getD ⟨0,0⟩)).x),γ ((((W.free (W.bj.getD d.bf.toNat default)).getD ⟨0,0⟩)).y),γ (ae.hj d.what),γ 0]) Z Z (λ _=>gR Z (by kernel_rfl)) Z<|fW Z Z Z λ PF uU Q hK=>b_ (e:= 108) (cs:= [γ W.next,γ d.bf,γ d.what,γ ((((W.free (W.bj.getD d.bf.toNat default)).getD ⟨0,0⟩)).x),γ ((((W.free (W.bj.getD d.bf.toNat default)).getD ⟨0,0⟩)).y),γ (ae.hj d.what),γ 0]) Z (λ _=>by kernel_rfl) Z λ EE vN iy aee CP=>hK _ _ ⟨J uU iy, ?_⟩;have:=uU.size;have th:=td.trans (Mod.aP uU);have tj:=th.trans (Mod.aP iy);have afQ:=CP.lt;have bc:=((bc.later (J fC (J lY jE))).mod lr (bl fA)).later (J jG (J uU iy));refine dC Z Z Z λ ahr A1 Q hK=>ap ajw Φ.c6 (bc.later A1).T ((aO.fy (R:=a8.rep) (by_:=56) (q:=(⟨W.next,d.bf,d.what,c,ae.hj d.what,0⟩:a8)) CP ⟨(by rw [← hc];rfl),cI.2 (by dsimp only;omega),cI.2 (by dsimp only;omega),cI.2 (by dsimp only;omega),cI.2 (by dsimp only;omega),cI.2 (by dsimp only;omega),cI.2 (by dsimp only;have:=avc d.what;omega),cI.2 (by dsimp only;omega)⟩ (by decide)).keep A1) Z Z (by simp;omega) (by simp;omega) (by have:=A1.size;omega) Z λ PG W6 Ft lR akF Sy aJC=>hK _ _ ?_;have:=A1.size;have Hy:=tj.trans (Mod.aP A1);have bc:=bc.later A1;have bp:=bp.later (J uU (J iy A1));have A9:=Hy.md lR (λ q I=> .inl (aNe _ (ph I)));have tu:=bc.swapT lR akF Sy;have ML:∀ q∈bt.cA {a with T:=W6,t:=Ft},q=S→False:=λ q I af=>(aaE (aA:=aA) (w:=w) (W:=W) I).elim (λ h=>zP q h af) (λ h=>(Sy q h).elim (λ τ=>zP q (ph τ) af) (λ τ=>by omega));have anC:∀ q∈Φ.ab a.T,q=S→False:=λ q I af=>by (exact zP q (ph I) af)
   have bp:=bp.mod lR (λ I=>anC _ I rfl);refine ax Z (λ _=>b3 Z)<|ax Z (λ _=>au mg Z)<|ax Z (λ _=>au kk Z)<|dC Z Z Z λ V_ kP Q hK=>fM Z Z (bp.later kP) Z IW Z Z λ ahv Cd bp=>hK _ _ ?_;have Hz:=A9.trans (Mod.aP kP);have Ls:=Hz.md Cd k0;refine fn λ EI uW=> ?_;have jY:=Ls.trans (Mod.aP uW);refine br<|aK Z<|aa (b3 Z)<|aa (au mg Z)<|aa (au BD Z)<| ?_;have bp:=bp.later uW;refine bA Z bp a6 Z<|fl Z Z<|aa (b3 Z)<|aa (au mg Z)<|aa (au BD Z)<|fM Z Z bp Z cr Z Z λ Hi ie bp=> ?_;have ob:=jY.md ie k0;refine aJ<|aI<| ?_;refine dw [(4,0),(6,0),(8,0),(10,0),(13,3)] [0,1,2,3,4,5,6,7,8,9,10,11,12,13] ?_;refine bn Z Z<|ax Z (λ _=>b3 Z)<|ax Z (λ _=>au mg Z)<|ax Z (λ _=>au tL Z)<|cP Z Z bp fI Z<|ax Z (λ _=>au yl Z)<| ?_;have fE:=fE.later (J uU (J iy A1));have anD:∀ q∈Φ.ab a.T,q=C'→False:=λ q I af=>by (have:=fA q (ph I);omega)
   have fE:=((((fE.mod lR (λ I=>anD _ I rfl)).later kP).mod Cd aY).later uW).mod ie aY;refine cP Z Z fE a6 Z<| ?_;have tu:=(((tu.later kP).mod Cd (c2 ML)).later uW).mod ie (c2 ML);refine ax Z (λ _=>bX d.bf.toNat underlying46 cr Z Z (tu.S.has.bw (aZ d.bf.toNat (by show d.bf.toNat<W.bh.length;omega))) (by omega) (by show d.bf.toNat<W.bh.length;omega))<|cS Z (λ _ x=>aB Z (Φ.aQ.dj dA (by rw [← (tu.later x).S.has.bw (aZ d.bf.toNat (by show d.bf.toNat<W.bh.length;omega))];exact (tu.later x).S.has) (cj (l:=W.bh) (u:=0) (by show d.bf.toNat<W.bh.length;omega)) Z a6))<|ax Z (λ _=>au ZV Z)<| ?_;have oc:=oc.later (J uU (J iy A1));have anE:∀ q∈Φ.ab a.T,q=zH→False:=λ q I af=>by (have:=fA q (ph I);omega)
   have oc:=((((oc.mod lR (λ I=>anE _ I rfl)).later kP).mod Cd aY).later uW).mod ie aY;refine cP Z Z oc a6 Z<|ax Z (λ _=>iM Z Z fP)<|ax Z (λ _=>bX d.bf.toNat underlying46 cr Z Z (tu.S.has.bw (aZ d.bf.toNat (by show d.bf.toNat<W.bh.length;omega))) (by omega) (by show d.bf.toNat<W.bh.length;omega))<|dC Z Z Z λ aMR P1 Q hK=>so (q':=W.bh.getD d.bf.toNat 0 - ae.k1 d.what) (j:=0) (i:=d.bf.toNat) (tu.later P1).S Φ.c6 (cj (u:=0) (l:=W.bh) (by omega)) Z Z Z Z (λ _ cs h=>by obtain rfl:=dA h;exact ⟨rfl,cI.2 (by omega)⟩) Z Z cr λ ahz ug akP=>hK _ _ ?_;have aC6:=ob.trans (Mod.aP P1);have tu:=tu.later P1;have bp:=bp.later P1;have HB:=aC6.md ug (λ q I=> .inl (aNe _ (BI (a:=a) I)));have E9:=tu.ags ug akP;have Rz:∀ q∈Φ.ab a.S,q=S→False:=λ q I af=>by (exact ML q (BI I) af)
   have bp:=bp.mod ug (λ I=>Rz _ I rfl);refine fn λ ahC lW=> ?_;have Lx:=HB.trans (Mod.aP lW);refine br<|aF<|bH Z<|cZ Z Z<| ?_;have bp:=bp.later lW;have E9:=E9.later lW;rw [ar4 κ τ aq bb bV cy hc NT];exact ⟨{a with T:=W6,t:=Ft},Z,⟨by simpa [ae.cells] using bp,E9.Vi rfl rfl rfl rfl rfl ⟨E9.nums.1,E9.nums.2.1,cI.2 (by show -9223372036854775808≤W.next+1∧W.next+1≤9223372036854775807;omega),E9.nums.2.2.2⟩,λ I=>ML _ I rfl,j8⟩,λ q I=>(aaE (aA:=aA) (w:=w) (W:=W) I).elim .inl (λ h=>(Sy q h).elim (λ h=> .inl (ph h)) (λ h=> .inr (by omega))),Lx⟩
end
end Go.Proofs.YthlpmldmhakhaaaGreatDoor
