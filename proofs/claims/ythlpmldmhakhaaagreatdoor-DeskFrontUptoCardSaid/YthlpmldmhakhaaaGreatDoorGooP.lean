import Derived.Test.YthlpmldmhakhaaaGreatDoorClone
set_option linter.unusedVariables false
set_option linter.unusedSimpArgs false
set_option maxRecDepth 100000
set_option maxHeartbeats 4000000
open Go.RowKit
namespace Go.Proofs.YthlpmldmhakhaaaGreatDoor
open Tryz
abbrev aQm:=@bne_iff_ne
structure c9 where
 kind:Int
 bf:Int
 spot:ai
 what:Int
 deriving DecidableEq,Inhabited
namespace c9
def cells (a:c9):List Value:= [.int .i64 (a.kind), .int .i64 (a.bf), .int .i64 (a.spot.x), .int .i64 (a.spot.y), .int .i64 (a.what)]
def ok (a:c9):Prop:=(Lit.int .i64 a.kind).wf=true∧(Lit.int .i64 a.bf).wf=true∧(Lit.int .i64 a.spot.x).wf=true∧(Lit.int .i64 a.spot.y).wf=true∧(Lit.int .i64 a.what).wf=true
def raw (j:Nat) (u:Value):Prop:=match j with
 | 0 | 1 | 2 | 3 | 4=>∃ n:Int,u= .int .i64 n
 | _=>True
theorem sa (a:c9):∀ (j:Nat) u,a.cells[j]? =some u→raw j u:=by
 intro j u hu
 match j,hu with
 | 0,hu | 1,hu | 2,hu | 3,hu | 4,hu=>exact ⟨_,(aMJ hu).symm⟩
 | j+5,hu=>exact trivial
theorem r_ (a:c9):∀ u∈a.cells,u.oneCell'=true:=by
 intro u hu;unfold cells at hu;simp only [aMN,aN7,aOM] at hu;rcases hu with rfl | rfl | rfl | rfl | rfl<;>rfl
def rep:Φ c9:=Φ.flat 5 cells ok raw (λ _=>rfl) r_ sa
def zero:Value:= .agg #[.int .i64 0, .int .i64 0, .int .i64 0, .int .i64 0, .int .i64 0]
theorem k3:∀ (j:Nat) u,zero.cells[j]? =some u→rep.raw j u:=by
 intro j u hu;have hu:(#[(.int .i64 0:Value),(.int .i64 0:Value),(.int .i64 0:Value),(.int .i64 0:Value),(.int .i64 0:Value)]:Array Value)[j]? =some u:=hu
 match j,hu with
 | 0,hu | 1,hu | 2,hu | 3,hu | 4,hu=>exact ⟨_,(aMJ hu).symm⟩
 | j+5,hu=>cases hu
theorem info:(prog.info? 191).map (λ i=>(i.zero,i.size,i.bytes))=some (some zero,5,40):=by kernel_rfl
def sh:hq:=(.cons (.int .i64) (.cons (.int .i64) (.cons (.cons (.int .i64) (.cons (.int .i64) .nil)) (.cons (.int .i64) .nil))))
end c9
theorem aqW {w:World} {cs:List Value} {a:c9} (h:c9.rep.has w cs a):cs=a.cells:=aOY (show cs=a.cells∧a.ok from h)
section
variable {k:Nat} {V:ae} {t u:a8} {d:c9}
def beside (a b:ai):Bool:=cJ b.x (a.x - 1) (a.x+1) && cJ b.y (a.y - 1) (a.y+1)
namespace ae
def place (W:ae) (c:ai):Nat:=(c.y * W.field.wide+c.x).toNat
def o6 (t:a8) (n:Int):a8:= {t with load:=t.load+n}
def mj (W:ae) (d:c9):Option ae :=
 match W.ah.findIdx? (gH d.bf) with
 | none=>none
 | some k =>
  let t:=W.ah.getD k default
  let m:=W.bW.getD (W.place d.spot) 0
  if t.kind == 1 && decide (t.load<5) && beside t.spot d.spot && W.field.dU d.spot && m != 0 then
   some {W with bW:=W.bW.set (W.place d.spot) (m - 1),ah:=W.ah.set k (o6 t 1)}
  else none
def drop (W:ae) (d:c9):Option ae :=
 match W.ah.findIdx? (gH d.bf) with
 | none=>none
 | some k =>
  let t:=W.ah.getD k default
  let o:=t.owner.toNat
  let s:=W.bh.getD o 0
  let n:=min t.load (1000000 - s)
  if t.load != 0 && beside (W.bj.getD o default) t.spot && decide (0<n) then
   some {W with bh:=W.bh.set o (s+n),ah:=W.ah.set k (o6 t (-n))}
  else none
def around (c:ai):List ai :=
 [c,⟨c.x - 1,c.y - 1⟩,⟨c.x,c.y - 1⟩,⟨c.x+1,c.y - 1⟩,⟨c.x - 1,c.y⟩,⟨c.x,c.y⟩,⟨c.x+1,c.y⟩,⟨c.x - 1,c.y+1⟩,⟨c.x,c.y+1⟩,⟨c.x+1,c.y+1⟩]
def BW (W:ae) (c:ai):Bool:=W.field.ground c && !W.ah.any (pg c)
def free (W:ae) (c:ai):Option ai:=(around c).find? W.BW
def qa (W:ae) (d:c9):Option ae :=
 let s:=W.bh.getD d.bf.toNat 0
 if cJ d.bf 0 ((W.bj.length:Int) - 1) && cJ d.what 1 2 && decide (kW d.what≤s) && decide (W.ah.length<100) && decide (W.next<1000000) then
  match W.free (W.bj.getD d.bf.toNat default) with
  | none=>none
  | some c=>some {W with ah:=W.ah++ [⟨W.next,d.bf,d.what,c,hg d.what,0⟩],next:=W.next+1,bh:=W.bh.set d.bf.toNat (s - kW d.what)}
 else none
def kA (W:ae) (d:c9):Option ae:=if d.kind=1 then W.mj d else if d.kind=2 then W.drop d else if d.kind=3 then W.qa d else none
def gY (W:ae):List c9→ae×List Bool
 | []=>(W, [])
 | d::l=>match W.kA d with
  | some V=>((V.gY l).1,true::(V.gY l).2)
  | none=>((W.gY l).1,false::(W.gY l).2)
end ae
theorem FF {l:List a8} {id:Int} (h:l.findIdx? (gH id)=some k):∃ t,l[k]? =some t∧t.id=id∧l.getD k default=t:=by
 obtain ⟨κ,τ,_⟩:=aOK.1 h;exact ⟨l[k],aMy κ,by simpa [gH] using τ,by rw [aMv,aMy κ];rfl⟩
theorem ay2 {W:ae} (pa:V.ah=W.ah.set k u) (aC:W.ah[k]? =some t) (hs:u.spot=t.spot) (i:Nat):V.iz i=W.iz i:=by
 unfold ae.iz;rw [pa,List.take_set,aOq];by_cases k9:k<i
 ·have κ:((W.ah.take i).map (·.spot))[k]? =some t.spot:=by rw [aMX,aNe,aMI k9,aC];rfl
  obtain ⟨τ,aq⟩:=aMx.1 κ;rw [hs,← aq];exact aOt _
 ·rw [List.set_eq_of_length_le (by rw [aNf,aME];omega)]
theorem atQ {W:ae} (pa:V.ah=W.ah.set k u) (aC:W.ah[k]? =some t) (hs:u.id=t.id) (i:Nat):V.i' i=W.i' i:=by
 unfold ae.i';by_cases ak:i=0
 ·rw [aMI ak,aMI ak]
 ·rw [aMA ak,aMA ak,pa,aMv,aMv];by_cases aj:k=i - 1
  ·subst aj;rw [aNg (aMx.1 aC).1,aC];exact hs
  ·rw [aNy aj]
theorem QU {W:ae} (pa:V.ah=W.ah.set k u) (aC:W.ah[k]? =some t) {i:Nat} {x:a8} (hx:V.ah[i]? =some x):(i=k∧x=u)∨(i≠k∧W.ah[i]? =some x):=by
 rw [pa] at hx;by_cases aj:k=i
 ·subst aj;rw [aNg (aMx.1 aC).1] at hx;exact .inl ⟨Z,(aMJ hx).symm⟩
 ·rw [aNy aj] at hx;exact .inr ⟨aOV aj,hx⟩
theorem Good.turned {W:ae} (h:Good W) {n:Int} (aC:W.ah[k]? =some t) (pa:V.ah=W.ah.set k (ae.o6 t n)) (ay:0≤t.load+n∧t.load+n≤ae.Ah t.kind)
  (hf:V.field=W.field) (af:V.bj=W.bj) (hn:V.next=W.next) (hw:V.now=W.now)
  (yo:V.bh.length=W.bh.length) (hs:∀ (i:Nat) s,V.bh[i]? =some s→0≤s∧s≤1000000)
  (NO:V.bW.length=W.bW.length) (hm:∀ (i:Nat) m,V.bW[i]? =some m→0≤m∧m≤1000000∧(m≤0∨W.field.places.getD i 0=3)):Good V:=by
 have κ:=h.ah k t aC;have hlen:V.ah.length=W.ah.length:=by rw [pa,aMM]
 refine ⟨by rw [hf];exact h.field,by rw [af];exact h.gU,by rw [hlen];exact h.dH,by rw [yo,af];exact h.sl, ?_,hs,by rw [NO,hf];exact h.D3,by rw [hf];exact hm,λ i x hx=> ?_,λ i x hx=> ?_,λ i x hx=> ?_,by rw [hn];exact h.next,by rw [hw];exact h.now⟩
 ·rw [af,hf];exact h.bj
 ·rw [hf,af];rcases QU pa aC hx with ⟨rfl,rfl⟩ | ⟨_,hx⟩
  ·exact ⟨κ.kind,κ.owner,κ.ground,κ.df,ay⟩
  ·exact h.ah i x hx
 ·rw [atQ pa aC rfl,hn];rcases QU pa aC hx with ⟨rfl,rfl⟩ | ⟨_,hx⟩
  ·exact h.ids i t aC
  ·exact h.ids i x hx
 ·rw [ay2 pa aC rfl];rcases QU pa aC hx with ⟨rfl,rfl⟩ | ⟨_,hx⟩
  ·exact h.iz i t aC
  ·exact h.iz i x hx
theorem avA {W:ae} (h:W.mj d=some V):∃ (k:Nat) (t:a8),W.ah.findIdx? (gH d.bf)=some k∧W.ah[k]? =some t∧t.id=d.bf∧t.kind=1∧t.load<5∧beside t.spot d.spot=true∧W.field.dU d.spot=true∧W.bW.getD (W.place d.spot) 0≠0∧
  V= {W with bW:=W.bW.set (W.place d.spot) (W.bW.getD (W.place d.spot) 0 - 1),ah:=W.ah.set k (ae.o6 t 1)}:=by
 unfold ae.mj at h;cases hf:W.ah.findIdx? (gH d.bf) with
 | none=>rw [hf] at h;cases h
 | some k =>
  rw [hf] at h;obtain ⟨t,aC,hid,aT⟩:=FF hf;simp only [aT] at h;split at h
  ·rename_i hc
   simp only [aMF,aMD,aQm,aNq] at hc;exact ⟨k,t,Z,aC,hid,hc.1.1.1.1,hc.1.1.1.2,hc.1.1.2,hc.1.2,hc.2,(aMJ h).symm⟩
  ·cases h
theorem ann {W:ae} (h:W.drop d=some V):∃ (k:Nat) (t:a8) (n:Int),W.ah.findIdx? (gH d.bf)=some k∧W.ah[k]? =some t∧t.id=d.bf∧t.load≠0∧beside (W.bj.getD t.owner.toNat default) t.spot=true∧n=min t.load (1000000 - W.bh.getD t.owner.toNat 0)∧0<n∧
  V= {W with bh:=W.bh.set t.owner.toNat (W.bh.getD t.owner.toNat 0+n),ah:=W.ah.set k (ae.o6 t (-n))}:=by
 unfold ae.drop at h;cases hf:W.ah.findIdx? (gH d.bf) with
 | none=>rw [hf] at h;cases h
 | some k =>
  rw [hf] at h;obtain ⟨t,aC,hid,aT⟩:=FF hf;simp only [aT] at h;split at h
  ·rename_i hc
   simp only [aMF,aMD,aQm] at hc;exact ⟨k,t,_,Z,aC,hid,hc.1.1,hc.1.2,Z,hc.2,(aMJ h).symm⟩
  ·cases h
theorem arw {W:ae} (h:W.qa d=some V):∃ c:ai,W.free (W.bj.getD d.bf.toNat default)=some c∧0≤d.bf∧d.bf<(W.bj.length:Int)∧(d.what=1∨d.what=2)∧ae.kW d.what≤W.bh.getD d.bf.toNat 0∧W.ah.length<100∧W.next<1000000∧
  V= {W with ah:=W.ah++ [⟨W.next,d.bf,d.what,c,ae.hg d.what,0⟩],next:=W.next+1,bh:=W.bh.set d.bf.toNat (W.bh.getD d.bf.toNat 0 - ae.kW d.what)}:=by
 unfold ae.qa at h;simp only at h;split at h
 ·rename_i hc
  simp only [aMF,aMD] at hc;have a:=jt hc.1.1.1.1;have b:=jt hc.1.1.1.2;split at h
  ·cases h
  ·rename_i c kB
   exact ⟨c,kB,a.1,by omega,by omega,hc.1.1.2,hc.1.2,hc.2,(aMJ h).symm⟩
 ·cases h
theorem axh (k:Int):0≤ae.kW k:=by unfold ae.kW;split<;>(try split)<;>omega
theorem Good.mj {W:ae} (h:Good W) (hd:W.mj d=some V):Good V:=by
 obtain ⟨k,t,_,aC,_,aj,ay,_,ew,Tn,rfl⟩:=avA hd;have κ:=h.ah k t aC;have arT:ae.Ah t.kind=5:=by rw [aj];rfl
 obtain ⟨i1,i2,_⟩:=au.idx h.field ew;have bB:W.place d.spot<W.bW.length:=by rw [h.D3];unfold ae.place;omega
 obtain ⟨m,hm⟩:=jm bB;have τ:=h.bW _ m hm;have aT:W.bW.getD (W.place d.spot) 0=m:=by rw [aMv,hm];rfl
 rw [aT] at Tn ⊢;refine h.turned aC Z (by have:=κ.load;omega) Z Z Z Z Z h.bh (by simp) λ i x hx=> ?_;simp only at hx;by_cases ak:W.place d.spot=i
 ·subst ak;rw [aNg bB] at hx;obtain rfl:=aMJ hx;refine ⟨by omega,by omega, ?_⟩;rcases τ.2.2 with aq | aq
  ·omega
  ·exact .inr aq
 ·rw [aNy ak] at hx;exact h.bW i x hx
theorem Good.drop {W:ae} (h:Good W) (hd:W.drop d=some V):Good V:=by
 obtain ⟨k,t,n,_,aC,_,ay,_,hn,aGg,rfl⟩:=ann hd;have κ:=h.ah k t aC;have bB:t.owner.toNat<W.bh.length:=by rw [h.sl];have:=κ.owner;omega
 obtain ⟨s,hs⟩:=jm bB;have τ:=h.bh _ s hs;have aT:W.bh.getD t.owner.toNat 0=s:=by rw [aMv,hs];rfl
 rw [aT] at hn ⊢;refine h.turned aC Z (by have:=κ.load;omega) Z Z Z Z (by simp) (λ i x hx=> ?_) Z h.bW;simp only at hx;by_cases ak:t.owner.toNat=i
 ·subst ak;rw [aNg bB] at hx;obtain rfl:=aMJ hx;omega
 ·rw [aNy ak] at hx;exact h.bh i x hx
theorem Good.qa {W:ae} (h:Good W) (hd:W.qa d=some V):Good V:=by
 obtain ⟨c,kB,asM,i_,aj,hp,BD,tH,rfl⟩:=arw hd;have tJ:=aPs kB;unfold ae.BW at tJ;rw [aMF] at tJ;have ou:∀ t∈W.ah,t.spot≠c:=λ t aC he=>by
  have:=tJ.2;rw [aNF,aRa] at this;exact this t aC (by simp [pg,he])
 have bB:d.bf.toNat<W.bh.length:=by rw [h.sl];omega
 obtain ⟨s,hs⟩:=jm bB;have τ:=h.bh _ s hs;have aT:W.bh.getD d.bf.toNat 0=s:=by rw [aMv,hs];rfl
 rw [aT] at hp ⊢;have NT:=axh d.what;have hn:=h.next;have abQ:∀ i,i≤W.ah.length→ae.iz {W with ah:=W.ah++ [⟨W.next,d.bf,d.what,c,ae.hg d.what,0⟩],next:=W.next+1,bh:=W.bh.set d.bf.toNat (s - ae.kW d.what)} i=W.iz i:=λ i ak=>by
  unfold ae.iz;simp only;rw [aQh ak]
 have abr:∀ i,i≤W.ah.length→ae.i' {W with ah:=W.ah++ [⟨W.next,d.bf,d.what,c,ae.hg d.what,0⟩],next:=W.next+1,bh:=W.bh.set d.bf.toNat (s - ae.kW d.what)} i=W.i' i:=λ i ak=>by
  unfold ae.i';simp only;by_cases aB:i=0
  ·rw [aMI aB,aMI aB]
  ·rw [aMA aB,aMA aB,aMv,aMv,aMZ (by omega)]
 have gg:∀ (i:Nat) x,(W.ah++ [(⟨W.next,d.bf,d.what,c,ae.hg d.what,0⟩:a8)])[i]? =some x→(i<W.ah.length∧W.ah[i]? =some x)∨(i=W.ah.length∧x=⟨W.next,d.bf,d.what,c,ae.hg d.what,0⟩):=λ i x hx=>by
  by_cases ak:i<W.ah.length
  ·rw [aMZ ak] at hx;exact .inl ⟨ak,hx⟩
  ·rw [aM7 (by omega)] at hx;have aB:i - W.ah.length=0:=by
    have:=(aMx.1 hx).1;simp at this;omega
   rw [aB] at hx;exact .inr ⟨by omega,by simpa using hx.symm⟩
 have aF2:W.i' W.ah.length<W.next∧0≤W.i' W.ah.length:=by
  by_cases aB:W.ah.length=0
  ·rw [aB];exact ⟨by show (0:Int)<_;omega,aNS _⟩
  ·obtain ⟨t,aC⟩:=jm (l:=W.ah) (i:=W.ah.length - 1) (by omega);have bb:=h.ids _ t aC;have e:W.i' W.ah.length=t.id:=by
    unfold ae.i';rw [aMA aB,aMv,aC];rfl
   rw [e];omega
 refine ⟨h.field,h.gU,by simp;omega,by simp;exact h.sl,h.bj,λ i x hx=> ?_,h.D3,h.bW,λ i x hx=> ?_,λ i x hx=> ?_,λ i x hx=> ?_,by simp only;omega,h.now⟩
 ·simp only at hx;by_cases ak:d.bf.toNat=i
  ·subst ak;rw [aNg bB] at hx;obtain rfl:=aMJ hx;omega
  ·rw [aNy ak] at hx;exact h.bh i x hx
 ·rcases gg i x hx with ⟨_,hx⟩ | ⟨_,rfl⟩
  ·exact h.ah i x hx
  ·exact ⟨aj,⟨asM,i_⟩,tJ.1,by simp only;rcases aj with h | h<;>rw [h]<;>decide,by simp only;rcases aj with h | h<;>rw [h]<;>decide⟩
 ·rcases gg i x hx with ⟨ak,hx⟩ | ⟨rfl,rfl⟩
  ·rw [abr i (by omega)];have:=h.ids i x hx;simp only;omega
  ·rw [abr _ (aMO _)];simp only;omega
 ·rcases gg i x hx with ⟨ak,hx⟩ | ⟨rfl,rfl⟩
  ·rw [abQ i (by omega)];exact h.iz i x hx
  ·rw [abQ _ (aMO _)];simp only;cases hc:(W.iz W.ah.length).contains c with
   | false=>rfl
   | true =>
    rw [aOS] at hc;unfold ae.iz at hc;obtain ⟨t,aC,he⟩:=aMT.1 hc;exact absurd he (ou t (aOX aC))
theorem Good.kA {W:ae} (h:Good W) (hd:W.kA d=some V):Good V:=by
 unfold ae.kA at hd;split at hd
 ·exact h.mj hd
 ·split at hd
  ·exact h.drop hd
  ·split at hd
   ·exact h.qa hd
   ·cases hd
theorem Good.gY {W:ae} (h:Good W):∀ l:List c9,Good (W.gY l).1:=by
 intro l;induction l generalizing W with
 | nil=>exact h
 | cons d l bu =>
  unfold ae.gY;cases hd:W.kA d with
  | none=>exact bu h
  | some V=>exact bu (h.kA hd)
end
structure kN (w:World) (az S:Nat) (a:ae.cU) (W:ae):Prop where
 eh:aO w S (ae.cells a W) 189 (0,0)
 own:bt w az a W
 far:S∉bt.cA a
 low:az≤S
theorem kN.later {w w':World} {az S:Nat} {a:ae.cU} {W:ae} (h:kN w az S a W) (af:Below w.heap.size w w'):kN w' az S a W:=⟨h.eh.later af,h.own.later af,h.far,h.low⟩
theorem X8 (a b:ai) (w:World) (κ:0≤a.x) (τ:a.x≤40) (aq:0≤a.y) (bb:a.y≤40):
  Calls prog 157 #[.agg #[.int .i64 a.x, .int .i64 a.y], .agg #[.int .i64 b.x, .int .i64 b.y]] w λ e w'=>e= .returned (.bool (beside a b))∧Below w.heap.size w w':=by
 have cS:=ky w (.cells #[.int .i64 a.x, .int .i64 a.y] 98);have dM:=ky (w.alloc (.cells #[.int .i64 a.x, .int .i64 a.y] 98)) (.cells #[.int .i64 b.x, .int .i64 b.y] 98);have af:=cS.trans (dM.mono cS.size);unfold beside;clear cS dM;rcases aOe b.x (a.x - 1) with bd | bd
 ·rw [oB (.inl bd)];have d1:decide (a.x - 1≤b.x)=false:=by simp;omega
  go_enter func157,ntmps157;go_wp2
  go_ret;exact ⟨Z,af⟩
 ·have d1:decide (a.x - 1≤b.x)=true:=by simp;omega
  rcases aOe (a.x+1) b.x with bP | bP
  ·rw [oB (n:=b.x) (.inr bP)];have d2:decide (b.x≤a.x+1)=false:=by simp;omega
   go_enter func157,ntmps157;go_wp2
   go_ret;exact ⟨hh (by simp<;>omega),af⟩
  ·have d2:decide (b.x≤a.x+1)=true:=by simp;omega
   rw [ma (n:=b.x) bd bP];rcases aOe b.y (a.y - 1) with c3 | c3
   ·rw [oB (.inl c3)];have d3:decide (a.y - 1≤b.y)=false:=by simp;omega
    go_enter func157,ntmps157;go_wp2
    go_ret;exact ⟨hh (by simp<;>omega),af⟩
   ·have d3:decide (a.y - 1≤b.y)=true:=by simp;omega
    rcases aOe (a.y+1) b.y with c4 | c4
    ·rw [oB (n:=b.y) (.inr c4)];have d4:decide (b.y≤a.y+1)=false:=by simp;omega
     go_enter func157,ntmps157;go_wp2
     go_ret;exact ⟨hh (by simp<;>omega),af⟩
    ·have d4:decide (b.y≤a.y+1)=true:=by simp;omega
     rw [ma (n:=b.y) c3 c4];go_enter func157,ntmps157;go_wp2
     go_ret;exact ⟨hh (by simp<;>omega),af⟩
theorem azt (t:a8) (id:Int) (g:Nat) (w:World) (aT:w.cell? ⟨g,0,none⟩=some (.int .i64 id)):
  Calls prog 166 #[.agg #[.int .i64 t.id, .int .i64 t.owner, .int .i64 t.kind, .int .i64 t.spot.x, .int .i64 t.spot.y, .int .i64 t.df, .int .i64 t.load], .pointer (some ⟨g,0,none⟩)] w λ e w'=>e= .returned (.bool (gH id t))∧Below w.heap.size w w':=by
 have af:=ky w (.cells #[.int .i64 t.id, .int .i64 t.owner, .int .i64 t.kind, .int .i64 t.spot.x, .int .i64 t.spot.y, .int .i64 t.df, .int .i64 t.load] 108);have bB:=aPq w _ aT;simp only at bB;go_enter func166,ntmps166;go_wp2_with fail
 go_ret;exact ⟨Z,af⟩
theorem as5 (id:Int) (g:Nat) (A:Option Addr) (c:Nat) (l:List a8) (w:World) (ay:a8.rep.aQ 56 w A c l) (aT:w.cell? ⟨g,0,none⟩=some (.int .i64 id)):
  Calls prog 165 #[.slice A l.length c, .func (.func 166) #[] #[.pointer (some ⟨g,0,none⟩)]] w λ e w'=>e= .returned (.int .i64 (hb (gH id) l))∧Below w.heap.size w w':=by
 obtain ⟨n,hn⟩:∃ n,l.length=n:=⟨_,rfl⟩;have hle:n≤9223372036854775807:=by have:=ay.1;have:=ay.2.1;omega
 rw [hn];have bZ:=aMH ay;have jg:=aMH hn;clear ay hn;go_enter func165,ntmps165;go_wp2_with fail
 go_loopw [5,8] (λ _ gI wr=>∃ k:Nat,k≤n∧gI= .int .i64 (k:Int)∧Hid (∀ j (aw:j<k) (jq:j<l.length),(gH id) l[j]=false)∧Below w.heap.size w wr) (λ _ gI _=>n - (intOf gI).toNat)
 case atStart=>exact ⟨0,aNl _,rfl,(λ j aw=>by omega),aNb _ _⟩
 case round =>
  obtain ⟨k,aj,rfl,jf,af⟩:=hrel;by_cases bB:k<n
  ·have nG:k<l.length:=by rw [jg.out];exact bB
   obtain ⟨b,o,rfl,jJ⟩:=a8.at_ (bZ.out.keep af) (by omega);obtain ⟨x,qe⟩:∃ x,l[k]'nG=x:=⟨_,rfl⟩;obtain ⟨sH,kX,nP,D8,ON,Uu,afc⟩:=jJ k x (by rw [aMy nG,qe]);have u_:=aMH qe;have Te:wr.cell? ⟨g,0,none⟩=some (.int .i64 id):=cell_later af aT;have hc:=azt x id g wr Te;clear jJ qe;cases jI:(gH id) x with
   | true =>
    have kk:hb (gH id) l=(k:Int):=JF nG (by rw [u_.out];exact jI) λ j aw=>jf.out j aw (by omega);rw [jI] at hc;have pP:=aMH kk;clear kk jI;go_wp2_with (go_at_call 166;refine hc.mono ?_;rintro e w' ⟨rfl,bq⟩)
    go_ret;exact ⟨by rw [pP.out];rfl,af.trans (bq.mono af.size)⟩
   | false =>
    rw [jI] at hc;have n6:Hid (∀ j (aw:j<k+1) (jq:j<l.length),(gH id) l[j]=false):=by
     intro j aw jq;by_cases h:j<k
     ·exact jf.out j h jq
     ·obtain rfl:j=k:=by omega
      rw [u_.out];exact jI
    clear jI;go_wp2_with (go_at_call 166;refine hc.mono ?_;rintro e w' ⟨rfl,bq⟩)
    go_roundw
    case rel=>exact ⟨k+1,by omega,by go_num,n6,af.trans (bq.mono af.size)⟩
    case measure=>simp [intOf];omega
  ·have kk:hb (gH id) l= -1:=Gm λ j aw=>jf.out j (by have:=jg.out;omega) aw;have pP:=aMH kk;clear kk;go_wp2_with fail
   go_ret;exact ⟨by rw [pP.out];rfl,af⟩
def U7 (a:ae.cU) (k:Nat):Option Addr:=a.T.map λ x=>⟨x.block,k * 7,none⟩
def GV (a:ae.cU) (W:ae) (id:Int):Option Addr:=match W.ah.findIdx? (gH id) with | none=>none | some k=>U7 a k
theorem OU (id:Int) (w:World) (az S:Nat) (a:ae.cU) (W:ae) (h:kN w az S a W):
  Calls prog 156 #[.pointer (some ⟨S,0,none⟩), .int .i64 id] w λ e w'=>e= .returned (.pointer (GV a W id))∧Below w.heap.size w w':=by
 obtain ⟨eG,fV,fW,fq,eO,eJ,ff,fT,fv,eS⟩:=a;have cS:=ky w (.cells #[.int .i64 id] 3);have kR:=aO.new w [.int .i64 id] 3 (0,0);obtain ⟨w0,iF⟩:∃ w0,Hid (w.alloc (.cells #[.int .i64 id] 3)=w0):=⟨_,aMH rfl⟩;rw [iF.out] at cS;have kR:aO w0 w.heap.size [.int .i64 id] 3 (0,0):=by rw [← iF.out];exact kR
 have aB:=h.later cS;obtain ⟨dH,hV⟩:∃ n,Hid (W.ah.length=n):=⟨_,aMH rfl⟩;have HA:=aMH (as5 id w.heap.size eO eS W.ah w0 aB.own.T.has (kR.cell 0));have aFE:=h.eh.lt;obtain ⟨bS,bd,bP,c3,c4,c5,dw,dV,dW⟩:=ae.rM aB.eh;have aE:=aMH aB.eh;have aX:a8.rep.aL 108 56 w0 az (Φ.ab eO) eO eS W.ah:=aB.own.T;obtain ⟨xO,qX,e_,gD,CR,Mc,akF,aDJ,aDK⟩:=ae.rM h.eh;rw [hV.out] at HA dw akF;unfold GV;cases hf:W.ah.findIdx? (gH id) with
 | none =>
  have ak:hb (gH id) W.ah= -1:=by unfold hb;rw [hf]
  rw [ak] at HA;clear hf ak h aB aX kR;go_enter func156,ntmps156;go_wp2_with fail
  rw [iF.out];refine HA.out.mono ?_;rintro e b' ⟨rfl,bq⟩;go_wp2_with fail
  go_ret;exact ⟨Z,cS.trans (bq.mono cS.size)⟩
 | some k =>
  have ak:hb (gH id) W.ah=(k:Int):=by unfold hb;rw [hf]
  rw [ak] at HA;obtain ⟨t,aC,_⟩:=FF hf;have aj:k<dH:=by rw [← hV.out];exact (aMx.1 aC).1
  obtain ⟨g,rfl⟩:=aX.block (by rw [hV.out];omega);have k9:(k:Int)<(dH:Int):=by omega
  have sB:(0:Int)≤(k:Int):=by omega
  clear hf ak h aB aX kR aC;go_enter func156,ntmps156;go_wp2_with fail
  rw [iF.out];refine HA.out.mono ?_;rintro e b' ⟨rfl,bq⟩;have d6:=cell_later bq dw;clear bS bd bP c3 c4 c5 dw dV dW;go_wp2_with fail
  go_ret;exact ⟨by simp [U7],cS.trans (bq.mono cS.size)⟩
def aCT (W:ae) (V:Option ae) (w:World) (az S:Nat) (e:Ending) (w':World):Prop :=
 ∃ a',e= .returned (.bool V.isSome)∧kN w' az S a' (V.getD W)∧Below az w w'
def aDp (W:ae) (d:c9) (w:World) (az S:Nat) (a:ae.cU) (e:Ending) (w':World):Prop :=
 ∃ V,e= .returned (.bool (W.mj d).isSome)∧(W.mj d).getD W=V∧kN w' az S a V∧Below az w w'
theorem Ov {W:ae} {d:c9} {k:Nat} {t:a8} (hf:W.ah.findIdx? (gH d.bf)=some k) (aC:W.ah[k]? =some t):
  W.mj d=if t.kind == 1 && decide (t.load<5) && beside t.spot d.spot && W.field.dU d.spot && W.bW.getD (W.place d.spot) 0 != 0 then
   some {W with bW:=W.bW.set (W.place d.spot) (W.bW.getD (W.place d.spot) 0 - 1),ah:=W.ah.set k (ae.o6 t 1)} else none:=by
 have aT:W.ah.getD k default=t:=by rw [aMv,aC];rfl
 unfold ae.mj;rw [hf];simp only [aT]
section
variable {w aM:World} {az k:Nat} {a:ae.cU} {id m:Int} {d:c9} {t:a8}
def vt (W:ae) (V:Option ae) (w:World) (az S:Nat) (a:ae.cU) (e:Ending) (w':World):Prop :=
 ∃ a',e= .returned (.bool V.isSome)∧kN w' az S a' (V.getD W)∧(∀ q∈bt.cA a',q∈bt.cA a∨w.heap.size≤q)∧Mod (S::bt.cA a) w w'
theorem bt.ayN {W:ae} {l:List Int} (h:bt w az a W) (m:Mod (Φ.ab a.M) w aM) (om:bz.aL 3 8 aM az (Φ.ab a.M) a.M a.m l):bt aM az a {W with bW:=l}:=by
 obtain ⟨d1,d2,d3⟩:=h.MH;exact ⟨h.P.mod m λ x hx hs=>(d1 x hs).1 hx,h.B.mod m λ x hx hs=>(d1 x hs).2.1 hx,h.S.mod m λ x hx hs=>(d1 x hs).2.2.1 hx,om,h.T.mod m λ x hx hs=>(d1 x hs).2.2.2 hx,h.apart,h.nums⟩
theorem bt.afT {W:ae} {l:List a8} (h:bt w az a W) (m:Mod (Φ.ab a.T) w aM) (aX:a8.rep.aL 108 56 aM az (Φ.ab a.T) a.T a.t l):bt aM az a {W with ah:=l}:=by
 obtain ⟨d1,d2,d3⟩:=h.MH;exact ⟨h.P.mod m λ x hx hs=>(d2 x hs).1 hx,h.B.mod m λ x hx hs=>(d2 x hs).2.1 hx,h.S.mod m λ x hx hs=>(d2 x hs).2.2.1 hx,h.M.mod m λ x hx hs=>(d2 x hs).2.2.2 hx,aX,h.apart,h.nums⟩
theorem age {W:ae} (h:bt w az a W) (hf:W.ah.findIdx? (gH id)=some k):GV a W id=some ⟨et a.T,jO a.T+k * 7,none⟩:=by
 obtain ⟨t,aC,_⟩:=FF hf;have aX:a8.rep.aL 108 56 w az (Φ.ab a.T) a.T a.t W.ah:=h.T;obtain ⟨g,aT⟩:=aX.block (by have:=(aMx.1 aC).1;omega);unfold GV U7;rw [hf,aT];simp [et,jO]
theorem agd {W:ae} (hf:W.ah.findIdx? (gH id)=none):GV a W id=none:=by unfold GV;rw [hf]
theorem aeu {W:ae} (hf:W.ah.findIdx? (gH d.bf)=none):W.mj d=none:=by unfold ae.mj;rw [hf]
theorem aet {W:ae} (hf:W.ah.findIdx? (gH d.bf)=some k) (aC:W.ah[k]? =some t) (h:((t.kind != 1 || decide (5≤t.load)) || !beside t.spot d.spot)=true):W.mj d=none:=by
 rw [Ov hf aC,aMA];intro hc;simp only [aMF,aMD,aNq] at hc;simp only [hc.1.1.2,hc.1.1.1.1,aNa,bne_self_eq_false,aMD,aOE,aNm,aOM,false_or] at h;omega
theorem aev {W:ae} (hf:W.ah.findIdx? (gH d.bf)=some k) (aC:W.ah[k]? =some t) (hF:W.field.a7=0) (h:¬ W.field.cG d.spot=0):W.mj d=none:=by
 rw [Ov hf aC,aMA];intro hc;simp only [aMF] at hc;exact h (au.k6 hF hc.1.2).1
theorem aew {W:ae} (hf:W.ah.findIdx? (gH d.bf)=some k) (aC:W.ah[k]? =some t) (hm:W.bW.getD (W.place d.spot) 0=m) (h:m=0):W.mj d=none:=by
 rw [Ov hf aC,hm,h,aMA (by simp)]
theorem avz {W:ae} (hf:W.ah.findIdx? (gH d.bf)=some k) (aC:W.ah[k]? =some t) (aj:t.kind=1) (ay:t.load<5) (af:beside t.spot d.spot=true) (ew:W.field.dU d.spot=true) (hm:W.bW.getD (W.place d.spot) 0=m) (h:¬ m=0):
  W.mj d=some {W with bW:=W.bW.set (W.place d.spot) (m - 1),ah:=W.ah.set k (ae.o6 t 1)}:=by
 rw [Ov hf aC,hm,aMI];simp [aj,ay,af,ew,h]
theorem avx (d:c9) (w:World) (az S:Nat) (a:ae.cU) (W:ae) (h:kN w az S a W) (av:Good W) (hf:W.ah.findIdx? (gH d.bf)=none):
  Calls prog 143 #[.pointer (a_ S), .agg #[γ d.kind,γ d.bf,γ d.spot.x,γ d.spot.y,γ d.what]] w (vt W (W.mj d) w az S a):=by
 have j5:=h.low;have hX:=h.far;have bp:=h.eh;have bc:=h.own;have oA:=agd (a:=a) hf;refine cx (n:=88) func143 Z Z Z ?_;refine eW Z Z λ xb CS nh N9 fz=> ?_;have kL:=(Mod.bM (S::bt.cA a) w).trans (Mod.aP nh);refine aU Z<|aN Z<|aa (ar xY Z)<|bA Z fz aZ Z<| ?_;have bp:=bp.later nh;have bc:=bc.later nh;refine de ML Z ((oA ▸ OU d.bf _ az S a W ⟨bp,bc,hX,j5⟩)) λ uo bD=> ?_;have je:=kL.trans (Mod.aP bD);refine aU Z<|aI<|aI<| ?_;refine du [(6,0),(13,0),(20,0),(22,0),(23,0)] [0,1,2,3,4,5,6,7,8,9,10,11,12,13,14,15,16,17,18,19,20,21,22,23,24,25] ?_;refine bn rfl rfl<|ax rfl (λ _=>Mi underlying214 rfl rfl)<|bn rfl rfl<|cT rfl rfl<|cT rfl rfl<|cT rfl rfl<|iX rfl rfl<|cT rfl rfl<|ax rfl (λ _=>oL rfl rfl)<|bn rfl rfl<|cT rfl rfl<|cT rfl rfl<|cT rfl rfl<|iX rfl rfl<|cT rfl rfl<|ax rfl (λ _=>oL rfl rfl)<|bn rfl rfl<|cT rfl rfl<|cT rfl rfl<|cT rfl rfl<|iX rfl rfl<|cT rfl rfl<|iX rfl rfl<|kh (v:=undef) (args:= []) rfl rfl rfl rfl rfl rfl MM (λ hc=>nomatch hc) (λ hc=>nomatch hc) rfl<| ?_;refine cT Z Z<|ax Z (λ _=>oL Z Z)<|fn λ xa eA=> ?_;have iQ:=je.trans (Mod.aP eA);refine br<|gX Z<|aG<|bL Z<|cW<|c' Z Z<| ?_;have ee:=(J bD eA);have bc:=bc.later ee;have bp:=bp.later ee;exact ⟨a,by rw [aeu hf];rfl,by rw [aeu hf];exact ⟨bp,bc,hX,j5⟩,λ q I=> .inl I,iQ⟩
theorem avw (d:c9) (w:World) (az S:Nat) (a:ae.cU) (W:ae) (h:kN w az S a W) (av:Good W) (k:Nat) (t:a8) (hf:W.ah.findIdx? (gH d.bf)=some k) (aC:W.ah[k]? =some t):
  Calls prog 143 #[.pointer (a_ S), .agg #[γ d.kind,γ d.bf,γ d.spot.x,γ d.spot.y,γ d.what]] w (vt W (W.mj d) w az S a):=by
 have NO:=av.D3;have j5:=h.low;have hX:=h.far;have bp:=h.eh;have bc:=h.own;have zA:∀ q∈bt.cA a,q=S→False:=λ q I af=>hX (af ▸ I);have fw:=bY bc.lt;have oA:=age bc hf;have aX:=av.ah k t aC;obtain ⟨i1,i2,i3,i4,i5,i6⟩:=au.idx av.field (au.jn aX.ground);obtain ⟨uK,qJ,sS,sT,_,_⟩:=au.g_ av.field;have dM:0≤t.spot.x:=by omega
 have bq:t.spot.x≤40:=by omega
 have ek:0≤t.spot.y:=by omega
 have dX:t.spot.y≤40:=by omega
 have arH:=aX.load;refine cx (n:=88) func143 Z Z Z ?_;refine eW Z Z λ xb CS nh N9 fz=> ?_;have kL:=(Mod.bM (S::bt.cA a) w).trans (Mod.aP nh);refine aU Z<|aN Z<|aa (ar xY Z)<|bA Z fz aZ Z<| ?_;have bp:=bp.later nh;have bc:=bc.later nh;refine de ML Z ((oA ▸ OU d.bf _ az S a W ⟨bp,bc,hX,j5⟩)) λ uo bD=> ?_;have je:=kL.trans (Mod.aP bD);refine aU Z<|aI<|aI<| ?_;refine du [(6,0),(13,0),(20,0),(22,0),(23,0)] [0,1,2,3,4,5,6,7,8,9,10,11,12,13,14,15,16,17,18,19,20,21,22,23,24,25] ?_;refine bn Z Z<|ax Z (λ _=>Mi underlying214 Z Z)<|bn Z Z<|eP Z Z Z<|bQ Z Z (λ hc _=>b1 Z)<|bQ Z Z (λ hc _=>ar MV Z)<| ?_;have bc:=bc.later bD;refine dB Z Z (λ hc _ x=>aA Z (Φ.aQ.oh jo (by rw [← (bc.later x).T.has.bx (a1 k (by have:=(aMx.1 aC).1;exact this))];exact (bc.later x).T.has) 2 aC Z aZ))<|bQ Z Z (λ hc _=>bne Z Z)<|ax Z (λ _=>pn Z Z)<|bn Z Z<|eP Z Z Z<|bQ Z Z (λ hc _=>b1 (gt hc Z))<|bQ Z Z (λ hc _=>ar Bh (gt hc Z))<|dB Z Z (λ hc _ x=>aA (gt hc Z) (Φ.aQ.oh jo (by rw [← (bc.later x).T.has.bx (a1 k (by have:=(aMx.1 aC).1;exact this))];exact (bc.later x).T.has) 6 aC Z aZ))<|bQ Z Z (λ hc _=>k7 (gt hc Z) Z)<|ax Z (λ _=>gq Z Z Z Z)<|bn Z Z<|eP Z Z Z<|bQ Z Z (λ hc _=>b1 (gt hc Z))<|bQ Z Z (λ hc _=>ar q6 (gt hc Z))<|dB Z Z (λ hc _ x=>aA (gt hc Z) (Φ.aQ.part jo (by rw [← (bc.later x).T.has.bx (a1 k (by have:=(aMx.1 aC).1;exact this))];exact (bc.later x).T.has) 3 (ds:= [γ t.spot.x,γ t.spot.y]) aC Z b0 bs))<|bQ Z Z (λ hc _=>ar MO Z)<| ?_;have fz:=fz.later bD;refine dB Z Z (λ hc _ x=>aA (gt hc Z) ((fz.later x).par [γ d.spot.x,γ d.spot.y] b0 bs Z))<|kh Z Z Z Z Z Z MM (λ hc=>gG (gt hc Z) (gG (gt hc Z) Z)) (λ hc _ x=>X8 t.spot d.spot _ dM bq ek dX) Z<|bQ Z Z (λ hc _=>dH (gt hc Z))<|ax Z (λ _=>gq Z Z Z Z)<|fn λ xa eA=> ?_;have iQ:=je.trans (Mod.aP eA);refine br<| ?_;refine c_ Z (λ j3=> ?_) (λ j3=> ?_)
 ·refine aG<|bL Z<|cW<|c' Z Z<| ?_;have bc:=bc.later eA;have bp:=bp.later (J bD eA);exact ⟨a,by rw [aet hf aC j3];rfl,by rw [aet hf aC j3];exact ⟨bp,bc,hX,j5⟩,λ q I=> .inl I,iQ⟩
 ·simp only [aNj,bne_eq_false_iff_eq,aMC,aO8,Int.not_le] at j3;obtain ⟨⟨aj,ay⟩,Jf⟩:=j3;refine bF<|aI<|aI<| ?_;refine du [(4,0),(6,0),(7,0)] [0,1,2,3,4,5,6,7,8,9,10,11,12] ?_;refine bn Z Z<|ax Z (λ _=>b1 Z)<|ax Z (λ _=>ar l8 Z)<|ax Z (λ _=>ar pZ Z)<| ?_;have bp:=bp.later (J bD eA);refine cR Z (λ _ x=>aA Z ((bp.later x).par [γ W.field.wide,γ W.field.high, .slice a.P W.field.places.length a.p] gZ gy Z))<|ax Z (λ _=>ar MO Z)<| ?_;have fz:=fz.later eA;refine cR Z (λ _ x=>aA Z ((fz.later x).par [γ d.spot.x,γ d.spot.y] b0 bs Z))<| ?_;have bc:=bc.later eA;refine q8 Z Z o8 Z (λ _ x=>p2 W.field d.spot a.P a.p _ ((bc.later x).P).has) Z<|bn Z Z<|ax Z (λ _=>ex Z Z)<|ax Z (λ _=>ex Z Z)<|ax Z (λ _=>eQ Z)<|ax Z (λ _=>eQ Z)<|fn λ sM b3=> ?_;have iR:=iQ.trans (Mod.aP b3);refine br<|aN Z<|gJ Z Z<|aJ<| ?_;refine ob Z (λ tB=> ?_) (λ tB=> ?_)
  ·refine aG<|bL Z<|cW<|c' Z Z<| ?_;have bc:=bc.later b3;have bp:=bp.later b3;exact ⟨a,by rw [aev hf aC av.field tB];rfl,by rw [aev hf aC av.field tB];exact ⟨bp,bc,hX,j5⟩,λ q I=> .inl I,iR⟩
  ·have ew:=H' av.field tB;obtain ⟨fj,fQ,ih,nd,j',oR⟩:=au.idx av.field ew;have tK:=au.km av.field;obtain ⟨uK,qJ,sS,sT,_,_⟩:=au.g_ av.field;have kt:0≤d.spot.y * W.field.wide:=aO7 j' (by omega);have z2:d.spot.y * W.field.wide≤1600:=by omega
   have abK:W.place d.spot<W.bW.length:=by unfold ae.place;omega
   obtain ⟨m,hm⟩:=jm abK;have aGe:=av.bW _ m hm;have Tq:W.bW.getD (W.place d.spot) 0=m:=by rw [aMv,hm];rfl
   refine bF<|aI<| ?_;refine du [(4,0),(7,0),(13,0),(17,0)] [0,1,2,3,4,5,6,7,8,9,10,11,12,13,14,15,16,17,18,19,20] ?_;refine bn Z Z<|ax Z (λ _=>b1 Z)<|ax Z (λ _=>ar l8 Z)<|ax Z (λ _=>ar FB Z)<| ?_;have bp:=bp.later b3;refine cO Z Z bp fC Z<|ax Z (λ _=>ar MO Z)<|ax Z (λ _=>ar hB Z)<| ?_;have fz:=fz.later b3;refine cO Z Z fz aZ Z<|bn Z Z<|ax Z (λ _=>b1 Z)<|ax Z (λ _=>ar l8 Z)<|ax Z (λ _=>ar pZ Z)<|ax Z (λ _=>ar C6 Z)<|cO Z Z bp aZ Z<|ax Z (λ _=>zx Z Z fN)<|ax Z (λ _=>ar MO Z)<|ax Z (λ _=>ar hz Z)<|cO Z Z fz aZ Z<|ax Z (λ _=>bad Z Z fN)<| ?_;have bc:=bc.later b3;refine ax Z (λ _=>bX (((d.spot.y * W.field.wide)+d.spot.x).toNat) underlying46 cr Z Z (bc.M.has.bx (a1 (((d.spot.y * W.field.wide)+d.spot.x).toNat) (show (d.spot.y * W.field.wide+d.spot.x).toNat<W.bW.length by omega))) (by omega) (show (d.spot.y * W.field.wide+d.spot.x).toNat<W.bW.length by omega))<|ax Z (λ _=>eQ Z)<|fn λ agM oU=> ?_;have y0:=iR.trans (Mod.aP oU);refine br<|aI<|aN Z<|aa (b1 Z)<| ?_;have bc:=bc.later oU;refine aa (aA Z (Φ.aQ.dm dy (by rw [← bc.M.has.bx (a1 (((d.spot.y * W.field.wide)+d.spot.x).toNat) (show (d.spot.y * W.field.wide+d.spot.x).toNat<W.bW.length by omega))];exact bc.M.has) hm Z aZ))<|aa (beq Z Z)<|aJ<| ?_;refine lF Z (λ vL=> ?_) (λ vL=> ?_)
   ·refine aG<|bL Z<|cW<|c' Z Z<| ?_;have bp:=bp.later oU;exact ⟨a,by rw [aew hf aC Tq vL];rfl,by rw [aew hf aC Tq vL];exact ⟨bp,bc,hX,j5⟩,λ q I=> .inl I,y0⟩
   ·refine bF<|aN Z<|aa (b1 Z)<|aa (aA Z (Φ.aQ.dm dy (by rw [← bc.M.has.bx (a1 (((d.spot.y * W.field.wide)+d.spot.x).toNat) (show (d.spot.y * W.field.wide+d.spot.x).toNat<W.bW.length by omega))];exact bc.M.has) hm Z aZ))<|aa (iH Z Z fN)<|aa (b1 Z)<|so (q':=m - 1) (j:=0) (i:=((d.spot.y * W.field.wide)+d.spot.x).toNat) bc.M Φ.cZ hm Z Z Z Z (λ _ cs h=>by have wS:=(show _∧_ from h).2;obtain rfl:=dy h;exact ⟨rfl,cH.2 (by omega)⟩) Z Z cr λ uk BM ajS=> ?_;have bp:=bp.later oU;have fz:=fz.later oU;have ka:=y0.md BM (λ q I=> .inl (aMK _ (Bm I)));have Lt:=bc.ayN BM ajS;have Fh:∀ q∈Φ.ab a.M,q=S→False:=λ q I af=>by (exact zA q (Bm I) af)
    have bp:=bp.mod BM (λ I=>Fh _ I rfl);refine aJ<|aN Z<|aa (b1 Z)<|aa (ar Bh Z)<|aa (aA Z (Φ.aQ.oh jo (by rw [← Lt.T.has.bx (a1 k (by have:=(aMx.1 aC).1;exact this))];exact Lt.T.has) 6 aC Z aZ))<|fi Z Z<|aa (b1 Z)<|aa (ar Bh Z)<|so (q':=ae.o6 t 1) (j:=6) (i:=k) Lt.T Φ.cZ aC Z Z Z Z (λ _ cs h=>by have wS:=(show _∧_ from h).2;obtain rfl:=jo h;exact ⟨rfl,by obtain ⟨tU,pk,rE,tV,tW,OA,Ul⟩:=wS;exact ⟨tU,pk,rE,tV,tW,OA,cH.2 (by show _≤t.load+1∧t.load+1≤_;omega)⟩⟩) Z Z cr λ Au jN ajW=> ?_;have Rc:∀ q∈Φ.ab a.M,q=CS→False:=λ q I af=>by (have:=fw q (Bm I);omega)
    have fz:=fz.mod BM (λ I=>Rc _ I rfl);have jd:=ka.md jN (λ q I=> .inl (aMK _ (o9 I)));have ai8:=Lt.afT jN ajW;have Mx:∀ q∈Φ.ab a.T,q=S→False:=λ q I af=>by (exact zA q (o9 I) af)
    have bp:=bp.mod jN (λ I=>Mx _ I rfl);refine aJ<|aG<|bL Z<|c' Z Z<| ?_;rw [avz hf aC aj ay Jf ew Tq (by assumption)];exact ⟨a,Z,⟨by simpa [ae.cells] using bp,ai8,hX,j5⟩,λ q I=> .inl I,jd⟩
end
def aCU (W:ae) (d:c9) (w:World) (az S:Nat) (a:ae.cU) (e:Ending) (w':World):Prop :=
 ∃ V,e= .returned (.bool (W.drop d).isSome)∧(W.drop d).getD W=V∧kN w' az S a V∧Below az w w'
theorem drop_eq {W:ae} {d:c9} {k:Nat} {t:a8} {b:ai} {s:Int} (hf:W.ah.findIdx? (gH d.bf)=some k) (aC:W.ah[k]? =some t) (af:W.bj[t.owner.toNat]? =some b) (hs:W.bh[t.owner.toNat]? =some s):
  W.drop d=if t.load != 0 && beside b t.spot && decide (0<min t.load (1000000 - s)) then
   some {W with bh:=W.bh.set t.owner.toNat (s+min t.load (1000000 - s)),ah:=W.ah.set k (ae.o6 t (-(min t.load (1000000 - s))))} else none:=by
 have aT:W.ah.getD k default=t:=by rw [aMv,aC];rfl
 have Tf:W.bj.getD t.owner.toNat default=b:=by rw [aMv,af];rfl
 have arj:W.bh.getD t.owner.toNat 0=s:=by rw [aMv,hs];rfl
 unfold ae.drop;rw [hf];simp only [aT,Tf,arj]
theorem afU {α:Type} {l:List α} {i:Nat} {x:α} (h:l[i]? =some x):l.set i x=l:=by
 apply aOd;intro j;by_cases e:i=j
 ·subst e;rw [aNg (aMx.1 h).1,h]
 ·rw [aNy e]
section
variable {d:c9} {k:Nat} {t:a8} {b:ai} {s:Int}
theorem Zb {W:ae} (hf:W.ah.findIdx? (gH d.bf)=none):W.drop d=none:=by unfold ae.drop;rw [hf]
theorem Za {W:ae} (hf:W.ah.findIdx? (gH d.bf)=some k) (aC:W.ah[k]? =some t) (af:W.bj[t.owner.toNat]? =some b) (hs:W.bh[t.owner.toNat]? =some s) (h:(t.load == 0 || !beside b t.spot)=true):W.drop d=none:=by
 rw [drop_eq hf aC af hs,aMA];intro hc;simp only [aMF,aQm] at hc;simp only [hc.1.2,aNa,aNq,aOE,aNm,aOM] at h;exact hc.1.1 h
theorem ano {W:ae} (hf:W.ah.findIdx? (gH d.bf)=some k) (aC:W.ah[k]? =some t) (af:W.bj[t.owner.toNat]? =some b) (hs:W.bh[t.owner.toNat]? =some s) (ay:¬ t.load=0) (Jf:beside b t.spot=true) (av:Good W):
  (W.drop d).isSome=decide (0<min t.load (1000000 - s))∧(W.drop d).getD W= {W with bh:=W.bh.set t.owner.toNat (s+min t.load (1000000 - s)),ah:=W.ah.set k (ae.o6 t (-(min t.load (1000000 - s))))}:=by
 have κ:=(av.ah k t aC).load.1;have τ:=av.bh _ _ hs;rw [drop_eq hf aC af hs];by_cases hn:0<min t.load (1000000 - s)
 ·rw [aMI (by simp [ay,Jf,hn])];exact ⟨by simp [hn],rfl⟩
 ·rw [aMA (by simp [hn])];have aB:min t.load (1000000 - s)=0:=by omega
  refine ⟨by simp [hn], ?_⟩;rw [aB];have aR:W.bh.set t.owner.toNat (s+0)=W.bh:=by rw [Int.add_zero];exact afU hs
  have a6:W.ah.set k (ae.o6 t (-0))=W.ah:=by
   have:ae.o6 t (-0)=t:=by unfold ae.o6;simp
   rw [this];exact afU aC
  rw [aR,a6];rfl
theorem anl (d:c9) (w:World) (az S:Nat) (a:ae.cU) (W:ae) (h:kN w az S a W) (av:Good W) (hf:W.ah.findIdx? (gH d.bf)=none):
  Calls prog 144 #[.pointer (a_ S), .agg #[γ d.kind,γ d.bf,γ d.spot.x,γ d.spot.y,γ d.what]] w (vt W (W.drop d) w az S a):=by
 have j5:=h.low;have hX:=h.far;have bp:=h.eh;have bc:=h.own;have oA:=agd (a:=a) hf;refine cx (n:=80) func144 Z Z Z ?_;refine eW Z Z λ xb CS nh N9 fz=> ?_;have kL:=(Mod.bM (S::bt.cA a) w).trans (Mod.aP nh);refine aU Z<|aN Z<|aa (ar xY Z)<|bA Z fz aZ Z<| ?_;have bp:=bp.later nh;have bc:=bc.later nh;refine de ML Z ((oA ▸ OU d.bf _ az S a W ⟨bp,bc,hX,j5⟩)) λ uo bD=> ?_;have je:=kL.trans (Mod.aP bD);refine aU Z<|aI<|aI<| ?_;refine du [(6,0),(14,0),(18,0),(20,0),(24,0),(25,0)] [0,1,2,3,4,5,6,7,8,9,10,11,12,13,14,15,16,17,18,19,20,21,22,23,24,25,26,27] ?_;refine bn Z Z<|ax Z (λ _=>Mi underlying214 Z Z)<|bn Z Z<|cT Z Z<|cT Z Z<|cT Z Z<|iX Z Z<|cT Z Z<|ax Z (λ _=>oL Z Z)<|bn Z Z<|cT Z Z<|cT Z Z<|cT Z Z<|cT Z Z<|iX Z Z<|cT Z Z<|cT Z Z<|cT Z Z<|iX Z Z<|cT Z Z<|iX Z Z<|cT Z Z<|cT Z Z<|cT Z Z<| ?_;refine iX rfl rfl<|kh (v:=undef) (args:= []) rfl rfl rfl rfl rfl rfl MM (λ hc=>nomatch hc) (λ hc=>nomatch hc) rfl<|cT rfl rfl<|ax rfl (λ _=>oL rfl rfl)<|fn λ xa eA=> ?_;have iQ:=je.trans (Mod.aP eA);refine br<|gX Z<|aG<|bL Z<|cW<|c' Z Z<| ?_;have ee:=(J bD eA);have bc:=bc.later ee;have bp:=bp.later ee;exact ⟨a,by rw [Zb hf];rfl,by rw [Zb hf];exact ⟨bp,bc,hX,j5⟩,λ q I=> .inl I,iQ⟩
theorem drop2 (d:c9) (w:World) (az S:Nat) (a:ae.cU) (W:ae) (h:kN w az S a W) (av:Good W) (k:Nat) (t:a8) (hf:W.ah.findIdx? (gH d.bf)=some k) (aC:W.ah[k]? =some t):
  Calls prog 144 #[.pointer (a_ S), .agg #[γ d.kind,γ d.bf,γ d.spot.x,γ d.spot.y,γ d.what]] w (vt W (W.drop d) w az S a):=by
 have yo:=av.sl;have j5:=h.low;have hX:=h.far;have bp:=h.eh;have bc:=h.own;have zA:∀ q∈bt.cA a,q=S→False:=λ q I af=>hX (af ▸ I);have fw:=bY bc.lt;have oA:=age bc hf;have aX:=av.ah k t aC;have how:=aX.owner;obtain ⟨b,af⟩:=jm (l:=W.bj) (i:=t.owner.toNat) (by omega);obtain ⟨Ed,hs⟩:=jm (l:=W.bh) (i:=t.owner.toNat) (by omega);have aGE:=av.bh _ _ hs;have S0:=av.bj _ _ af;obtain ⟨i1,i2,i3,i4,i5,i6⟩:=au.idx av.field (au.jn S0.1);obtain ⟨uK,qJ,sS,sT,_,_⟩:=au.g_ av.field;have dM:0≤b.x:=by omega
 have bq:b.x≤40:=by omega
 have ek:0≤b.y:=by omega
 have dX:b.y≤40:=by omega
 have arH:=aX.load;have arT:ae.Ah t.kind≤5:=by unfold ae.Ah;split<;>omega
 refine cx (n:=80) func144 Z Z Z ?_;refine eW Z Z λ xb CS nh N9 fz=> ?_;have kL:=(Mod.bM (S::bt.cA a) w).trans (Mod.aP nh);refine aU Z<|aN Z<|aa (ar xY Z)<|bA Z fz aZ Z<| ?_;have bp:=bp.later nh;have bc:=bc.later nh;refine de ML Z ((oA ▸ OU d.bf _ az S a W ⟨bp,bc,hX,j5⟩)) λ uo bD=> ?_;have je:=kL.trans (Mod.aP bD);refine aU Z<|aI<|aI<| ?_;refine du [(6,0),(14,0),(18,0),(20,0),(24,0),(25,0)] [0,1,2,3,4,5,6,7,8,9,10,11,12,13,14,15,16,17,18,19,20,21,22,23,24,25,26,27] ?_;refine bn Z Z<|ax Z (λ _=>Mi underlying214 Z Z)<|bn Z Z<|eP Z Z Z<|bQ Z Z (λ hc _=>b1 Z)<|bQ Z Z (λ hc _=>ar Bh Z)<| ?_;have bc:=bc.later bD;refine dB Z Z (λ hc _ x=>aA Z (Φ.aQ.oh jo (by rw [← (bc.later x).T.has.bx (a1 k (by have:=(aMx.1 aC).1;simpa using this))];exact (bc.later x).T.has) 6 aC Z aZ))<|bQ Z Z (λ hc _=>beq Z Z)<|ax Z (λ _=>pn Z Z)<|bn Z Z<|eP Z Z Z<|bQ Z Z (λ hc _=>b1 (gt hc Z))<|bQ Z Z (λ hc _=>ar l8 (gt hc Z))<|bQ Z Z (λ hc _=>ar sq (gt hc Z))<| ?_;have bp:=bp.later bD;refine dB Z Z (λ hc _ x=>aA (gt hc Z) ((bp.later x).one x' Z))<|eP Z Z Z<|bQ Z Z (λ hc _=>b1 (gt hc Z))<|bQ Z Z (λ hc _=>ar Bj (gt hc Z))<|dB Z Z (λ hc _ x=>aA (gt hc Z) (Φ.aQ.oh jo (by rw [← (bc.later x).T.has.bx (a1 k (by have:=(aMx.1 aC).1;simpa using this))];exact (bc.later x).T.has) 1 aC Z aZ))<|bQ Z Z (λ hc _=>bX t.owner.toNat underlying49 bs (gt hc Z) (gt hc Z) (bc.B.has.bx (a1 t.owner.toNat (show t.owner.toNat<W.bj.length by omega))) (by (try simp only [cq] at hc);omega) (show t.owner.toNat<W.bj.length by omega))<|dB Z Z (λ hc _ x=>aA (gt hc Z) (Φ.aQ.jG vP (by rw [← (bc.later x).B.has.bx (a1 t.owner.toNat (show t.owner.toNat<W.bj.length by omega))];exact (bc.later x).B.has) af b0 bs))<|eP Z Z Z<|bQ Z Z (λ hc _=>b1 (gt hc Z))<|bQ Z Z (λ hc _=>ar q6 (gt hc Z))<|dB Z Z (λ hc _ x=>aA (gt hc Z) (Φ.aQ.part jo (by rw [← (bc.later x).T.has.bx (a1 k (by have:=(aMx.1 aC).1;simpa using this))];exact (bc.later x).T.has) 3 (ds:= [γ t.spot.x,γ t.spot.y]) aC Z b0 bs))<|kh Z Z Z Z Z Z MM (λ hc=>gG (gt hc Z) (gG (gt hc Z) Z)) (λ hc _ x=>X8 b t.spot _ dM bq ek dX) Z<|bQ Z Z (λ hc _=>dH (gt hc Z))<|ax Z (λ _=>gq Z Z Z Z)<|fn λ xa eA=> ?_;have iQ:=je.trans (Mod.aP eA);refine br<| ?_;refine c_ Z (λ j3=> ?_) (λ j3=> ?_)
 ·refine aG<|bL Z<|cW<|c' Z Z<| ?_;have bc:=bc.later eA;have bp:=bp.later eA;exact ⟨a,by rw [Za hf aC af hs j3];rfl,by rw [Za hf aC af hs j3];exact ⟨bp,bc,hX,j5⟩,λ q I=> .inl I,iQ⟩
 ·simp only [aNj,aPL,aO8,ne_eq] at j3;obtain ⟨ay,Jf⟩:=j3;have asy:(W.ah.set k (ae.o6 t (-(min t.load (1000000 - Ed)))))[k]? =some (ae.o6 t (-(min t.load (1000000 - Ed)))):=aNg (aMx.1 aC).1;refine bF<|aI<| ?_;refine du [(3,0),(8,0),(12,0),(14,0)] [0,1,2,3,4,5,6,7,8,9,10,11,12,13,14,15,16,17] ?_;refine bn Z Z<|ax Z (λ _=>b1 Z)<|ax Z (λ _=>ar Bh Z)<| ?_;have bc:=bc.later eA;refine cR Z (λ _ x=>aA Z (Φ.aQ.oh jo (by rw [← (bc.later x).T.has.bx (a1 k (by have:=(aMx.1 aC).1;simpa using this))];exact (bc.later x).T.has) 6 aC Z aZ))<|bn Z Z<|ax Z (λ _=>b1 Z)<|ax Z (λ _=>ar l8 Z)<|ax Z (λ _=>ar tv Z)<| ?_;have bp:=bp.later eA;refine cO Z Z bp fC Z<|bn Z Z<|ax Z (λ _=>b1 Z)<|ax Z (λ _=>ar Bj Z)<|cR Z (λ _ x=>aA Z (Φ.aQ.oh jo (by rw [← (bc.later x).T.has.bx (a1 k (by have:=(aMx.1 aC).1;simpa using this))];exact (bc.later x).T.has) 1 aC Z aZ))<|ax Z (λ _=>bX t.owner.toNat underlying46 cr Z Z (bc.S.has.bx (a1 t.owner.toNat (show t.owner.toNat<W.bh.length by omega))) (by omega) (show t.owner.toNat<W.bh.length by omega))<|cR Z (λ _ x=>aA Z (Φ.aQ.dm dy (by rw [← (bc.later x).S.has.bx (a1 t.owner.toNat (show t.owner.toNat<W.bh.length by omega))];exact (bc.later x).S.has) hs Z aZ))<|ax Z (λ _=>iH Z Z fN)<|ax Z (λ _=>J' Z Z)<|ax Z (λ _=>eQ Z)<|fn λ sM b3=> ?_;have iR:=iQ.trans (Mod.aP b3);refine br<|aN Z<|aa (b1 Z)<|aa (ar Bh Z)<| ?_;have bc:=bc.later b3;refine aa (aA Z (Φ.aQ.oh jo (by rw [← bc.T.has.bx (a1 k (by have:=(aMx.1 aC).1;simpa using this))];exact bc.T.has) 6 aC Z aZ))<|vm Z<|aa (iH Z Z fN)<|aa (b1 Z)<|aa (ar Bh Z)<|so (q':=ae.o6 t (-(min t.load (1000000 - Ed)))) (j:=6) (i:=k) bc.T Φ.cZ aC Z Z Z Z (λ _ cs h=>by have wS:=(show _∧_ from h).2;obtain rfl:=jo h;exact ⟨rfl,by obtain ⟨tU,pk,rE,tV,tW,OA,Ul⟩:=wS;exact ⟨tU,pk,rE,tV,tW,OA,cH.2 (by show _≤t.load+ -(min t.load (1000000 - Ed))∧t.load+ -(min t.load (1000000 - Ed))≤_;omega)⟩⟩) Z Z cr λ qE oE QF=> ?_;have bp:=bp.later b3;have fz:=fz.later (J bD (J eA b3));have lX:=iR.md oE (λ q I=> .inl (aMK _ (o9 I)));have xH:=bc.afT oE QF;have Fg:∀ q∈Φ.ab a.T,q=S→False:=λ q I af=>by (exact zA q (o9 I) af)
  have bp:=bp.mod oE (λ I=>Fg _ I rfl);refine aJ<|aI<| ?_;refine du [(4,0),(8,0),(10,0),(14,3)] [0,1,2,3,4,5,6,7,8,9,10,11,12,13,14] ?_;refine bn Z Z<|ax Z (λ _=>b1 Z)<|ax Z (λ _=>ar l8 Z)<|ax Z (λ _=>ar tv Z)<|cO Z Z bp fC Z<|bn Z Z<|ax Z (λ _=>b1 Z)<|ax Z (λ _=>ar Bj Z)<|RY (v:=γ t.owner) Z Z (λ _ x=>aA Z (Φ.aQ.oh jo (by rw [← (xH.later x).T.has.bx (a1 k (by have:=(aMx.1 aC).1;simpa using this))];exact (xH.later x).T.has) 1 asy Z aZ)) Z<|ax Z (λ _=>bX t.owner.toNat underlying46 cr Z Z (xH.S.has.bx (a1 t.owner.toNat (show t.owner.toNat<W.bh.length by omega))) (by omega) (show t.owner.toNat<W.bh.length by omega))<|cR Z (λ _ x=>aA Z (Φ.aQ.dm dy (by rw [← (xH.later x).S.has.bx (a1 t.owner.toNat (show t.owner.toNat<W.bh.length by omega))];exact (xH.later x).S.has) hs Z aZ))<|bn Z Z<|ax Z (λ _=>bad Z Z fN)<|ax Z (λ _=>bX t.owner.toNat underlying46 cr Z Z (xH.S.has.bx (a1 t.owner.toNat (show t.owner.toNat<W.bh.length by omega))) (by omega) (show t.owner.toNat<W.bh.length by omega))<|dA Z Z Z λ yS jc Q hK=>so (q':=Ed+min t.load (1000000 - Ed)) (j:=0) (i:=t.owner.toNat) (xH.later jc).S Φ.cZ hs Z Z Z Z (λ _ cs h=>by have wS:=(show _∧_ from h).2;obtain rfl:=dy h;exact ⟨rfl,cH.2 (by omega)⟩) Z Z cr λ Ej DT ajU=>hK _ _ ?_;have lY:=lX.trans (Mod.aP jc);have xH:=xH.later jc;have bp:=bp.later jc;have amQ:∀ q∈Φ.ab a.T,q=CS→False:=λ q I af=>by (have:=fw q (o9 I);omega)
  have fz:=(fz.mod oE (λ I=>amQ _ I rfl)).later jc;have ni:=lY.md DT (λ q I=> .inl (aMK _ (Bn I)));have Qh:=xH.afS DT ajU;have oc:∀ q∈Φ.ab a.S,q=S→False:=λ q I af=>by (exact zA q (Bn I) af)
  have bp:=bp.mod DT (λ I=>oc _ I rfl);refine fn λ xc jB=> ?_;have jT:=ni.trans (Mod.aP jB);refine br<|aN Z<|aa (iv Z Z)<|bL Z<|c' Z Z<| ?_;have Qh:=Qh.later jB;have bp:=bp.later jB;obtain ⟨aR,a6⟩:=ano hf aC af hs ay Jf av;exact ⟨a,by rw [aR];rfl,by rw [a6];exact ⟨by simpa [ae.cells] using bp,Qh,hX,j5⟩,λ q I=> .inl I,jT⟩
end
theorem apB (t:a8) (p:ai) (g:Nat) (w:World) (aT:w.cell? ⟨g,0,none⟩=some (.int .i64 p.x)∧w.cell? ⟨g,1,none⟩=some (.int .i64 p.y)):
  Calls prog 168 #[.agg #[.int .i64 t.id, .int .i64 t.owner, .int .i64 t.kind, .int .i64 t.spot.x, .int .i64 t.spot.y, .int .i64 t.df, .int .i64 t.load], .pointer (some ⟨g,0,none⟩)] w λ e w'=>e= .returned (.bool (pg p t))∧Below w.heap.size w w':=by
 have af:=ky w (.cells #[.int .i64 t.id, .int .i64 t.owner, .int .i64 t.kind, .int .i64 t.spot.x, .int .i64 t.spot.y, .int .i64 t.df, .int .i64 t.load] 108);obtain ⟨aT,Tf⟩:=aT;have bB:=aPq w _ aT;simp only at bB;by_cases h:t.spot=p
 ·have hr:pg p t=true:=by unfold pg;simp [h]
  rw [hr];subst h;clear hr;go_enter func168,ntmps168;go_wp2_with fail
  go_ret;exact ⟨Z,af⟩
 ·have hr:pg p t=false:=by unfold pg;simp [h]
  have dD:(t.spot.x == p.x)=false∨((t.spot.x == p.x)=true∧(t.spot.y == p.y)=false):=by
   obtain ⟨_,_,_,⟨a,b⟩,_,_⟩:=t;obtain ⟨c,d⟩:=p;simp at h ⊢;omega
  rw [hr];clear hr h;rcases dD with κ | ⟨κ,τ⟩
  all_goals
   go_enter func168,ntmps168;go_wp2_with fail
   go_ret;exact ⟨hh (by simp_all),af⟩
theorem as1 (p:ai) (g:Nat) (A:Option Addr) (c:Nat) (l:List a8) (w:World) (ay:a8.rep.aQ 56 w A c l) (aT:w.cell? ⟨g,0,none⟩=some (.int .i64 p.x)∧w.cell? ⟨g,1,none⟩=some (.int .i64 p.y)):
  Calls prog 165 #[.slice A l.length c, .func (.func 168) #[] #[.pointer (some ⟨g,0,none⟩)]] w λ e w'=>e= .returned (.int .i64 (hb (pg p) l))∧Below w.heap.size w w':=by
 obtain ⟨n,hn⟩:∃ n,l.length=n:=⟨_,rfl⟩;have hle:n≤9223372036854775807:=by have:=ay.1;have:=ay.2.1;omega
 rw [hn];have bZ:=aMH ay;have jg:=aMH hn;clear ay hn;go_enter func165,ntmps165;go_wp2_with fail
 go_loopw [5,8] (λ _ gI wr=>∃ k:Nat,k≤n∧gI= .int .i64 (k:Int)∧Hid (∀ j (aw:j<k) (jq:j<l.length),(pg p) l[j]=false)∧Below w.heap.size w wr) (λ _ gI _=>n - (intOf gI).toNat)
 case atStart=>exact ⟨0,aNl _,rfl,(λ j aw=>by omega),aNb _ _⟩
 case round =>
  obtain ⟨k,aj,rfl,jf,af⟩:=hrel;by_cases bB:k<n
  ·have nG:k<l.length:=by rw [jg.out];exact bB
   obtain ⟨b,o,rfl,jJ⟩:=a8.at_ (bZ.out.keep af) (by omega);obtain ⟨x,qe⟩:∃ x,l[k]'nG=x:=⟨_,rfl⟩;obtain ⟨sH,kX,nP,D8,ON,Uu,afc⟩:=jJ k x (by rw [aMy nG,qe]);have u_:=aMH qe;have Te:wr.cell? ⟨g,0,none⟩=some (.int .i64 p.x)∧wr.cell? ⟨g,1,none⟩=some (.int .i64 p.y):=⟨cell_later af aT.1,cell_later af aT.2⟩;have hc:=apB x p g wr Te;clear jJ qe;cases jI:(pg p) x with
   | true =>
    have kk:hb (pg p) l=(k:Int):=JF nG (by rw [u_.out];exact jI) λ j aw=>jf.out j aw (by omega);rw [jI] at hc;have pP:=aMH kk;clear kk jI;go_wp2_with (go_at_call 168;refine hc.mono ?_;rintro e w' ⟨rfl,bq⟩)
    go_ret;exact ⟨by rw [pP.out];rfl,af.trans (bq.mono af.size)⟩
   | false =>
    rw [jI] at hc;have n6:Hid (∀ j (aw:j<k+1) (jq:j<l.length),(pg p) l[j]=false):=by
     intro j aw jq;by_cases h:j<k
     ·exact jf.out j h jq
     ·obtain rfl:j=k:=by omega
      rw [u_.out];exact jI
    clear jI;go_wp2_with (go_at_call 168;refine hc.mono ?_;rintro e w' ⟨rfl,bq⟩)
    go_roundw
    case rel=>exact ⟨k+1,by omega,by go_num,n6,af.trans (bq.mono af.size)⟩
    case measure=>simp [intOf];omega
  ·have kk:hb (pg p) l= -1:=Gm λ j aw=>jf.out j (by have:=jg.out;omega) aw;have pP:=aMH kk;clear kk;go_wp2_with fail
   go_ret;exact ⟨by rw [pP.out];rfl,af⟩
theorem aqJ (p:ai) (g:Nat) (A:Option Addr) (c:Nat) (l:List a8) (w:World) (ay:a8.rep.aQ 56 w A c l) (aT:w.cell? ⟨g,0,none⟩=some (.int .i64 p.x)∧w.cell? ⟨g,1,none⟩=some (.int .i64 p.y)):
  Calls prog 167 #[.slice A l.length c, .func (.func 168) #[] #[.pointer (some ⟨g,0,none⟩)]] w λ e w'=>e= .returned (.bool (l.any (pg p)))∧Below w.heap.size w w':=by
 have hc:=as1 p g A c l w ay aT;rw [← TL];generalize hb (pg p) l=r at *
 generalize l.length=n at *
 clear ay aT;go_enter func167,ntmps167;go_wp2_with (go_at_call 165;refine hc.mono ?_;rintro e w' ⟨rfl,bq⟩)
 go_ret;exact ⟨Z,bq⟩
section
variable {p:ai}
theorem y8:dL prog ai.rep 49 98 16:=dL.jw (z:=ai.zero) (k:=2) underlying49 ai.info rfl rfl (by decide) ai.k3
theorem aeR {W:ae} {c:ai} (h:W.field.a7=0):((W.field.cG c == 0 && W.field.l6 c != 1) && !W.ah.any (pg c))=W.BW c:=by
 unfold ae.BW au.ground;cases ak:W.field.dU c with
 | false=>rw [(au.Ia h ak).1];rfl
 | true=>rw [(au.k6 h ak).1,(au.k6 h ak).2];rfl
theorem Sh {α:Type} {l:List α} {j:Nat} {u:α} (h:j<l.length):l.getD j u=l[j]:=by rw [aMv,aMy h];rfl
theorem apF {W:ae} {k:Nat} (aj:k<10) (jr:∀ j,j<k→W.BW ((ae.around p).getD j default)=false) (h:W.BW ((ae.around p).getD k default)=true):W.free p=some ((ae.around p).getD k default):=by
 have ay:(ae.around p).length=10:=rfl;unfold ae.free;rw [aOT];refine ⟨h,k,by omega,(Sh (by omega)).symm,λ j aw=> ?_⟩;have:=jr j aw;rw [Sh (by omega)] at this;simp [this]
theorem apE {W:ae} (jr:∀ j,j<10→W.BW ((ae.around p).getD j default)=false):W.free p=none:=by
 have ay:(ae.around p).length=10:=rfl;unfold ae.free;rw [aNQ];intro x hx;obtain ⟨j,aw,rfl⟩:=aNu.1 hx;have:=jr j (by omega);rw [Sh aw] at this;simp [this]
theorem apC (p:ai) (w:World) (az S:Nat) (a:ae.cU) (W:ae) (h:kN w az S a W) (av:Good W) (hp:0≤p.x∧p.x≤100∧0≤p.y∧p.y≤100):
  Calls prog 158 #[.pointer (a_ S), .agg #[γ p.x,γ p.y]] w (λ e w'=>e= .returned (.tuple #[.agg (((W.free p).getD ⟨0,0⟩).cells).toArray, .bool (W.free p).isSome])∧Ext w w'):=by
 have bp:=h.eh;have sH:=h.eh.lt;have uZ:=h.own.T.has;have Qi:=h.own.P.has;refine cx (n:=70) func158 Z Z Z ?_;refine eW Z Z λ dn bw bm fO ag=> ?_;have ja:=ag.lt;refine dj sk Z λ fP dI bD j8 aF=> ?_;have b7:=J bm bD;have qx:=aF.lt;refine aU Z<|aG<| ?_;have ag:=ag.later bD;refine aa (aA Z (ag.all b0 bs))<|b9 (e:= 98) (cs:= [γ p.x,γ p.y]) Z (λ _=>by kernel_rfl) Z λ iM iT b3 rm bI=> ?_;have c1:=J b7 b3;have yF:=bI.lt;refine aU Z<|aI<|aG<|aU Z<|bV<|JU 4<|mf<|aI<|aN Z<|aa (ble Z Z)<|aJ<|gX Z<|bF<|aI<|bV<| ?_;refine aG<|aU Z<|bV<|JU 4<|mf<|aI<|aN Z<|aa (ble Z Z)<|aJ<|gX Z<|bF<|aI<|bV<|rg<|vm Z<|aa (ar hz Z)<| ?_;have ag:=ag.later b3;refine bA Z ag aZ Z<|vm Z<|fi Z Z<|aa (ar hB Z)<|bA Z ag aZ Z<|vm Z<|fi Z Z<|aa (v:= .agg #[γ (p.x+(-1)),γ (p.y+(-1))]) (ht Z)<|b9 (e:= 98) (cs:= [γ (p.x+(-1)),γ (p.y+(-1))]) Z (λ _=>by kernel_rfl) Z λ qF XV iC adA xz=> ?_;have gR:=J c1 iC;have Uv:=xz.lt;have bI:=bI.later iC;have Xz:=aO.Kg (R:=ai.rep) (by_:=16) (B:=w.heap.size) (k:= [p]) bI [[γ p.x,γ p.y]] rfl (⟨⟨rfl,⟨fZ,fZ⟩⟩,trivial⟩) (by simp) (by simp) (by decide) (by omega);have Gs:∀ q∈Φ.ab (a_ iT),iT≤q:=λ q I=>aOn (aMu.1 I).symm;refine ap y8 Φ.cZ Xz (aO.fu (R:=ai.rep) (by_:=16) (q:=(⟨p.x+(-1),p.y+(-1)⟩:ai)) xz ⟨Z,⟨fZ,fZ⟩⟩ (by decide)) Z Z (by first | (simp<;>omega) | omega) (by first | (simp<;>omega) | omega) gR.size Z λ Cb PV aEX iK zn R8 aIV=> ?_;have:=iK.size;have n2:=Ext.mod gR iK (λ q I=>(Xz.lt q I).1);refine va Z<|nl<|cm<|br<|rg<|vm Z<|aa (q0 (r:=0) Z Z (by decide) (by decide))<|va Z<|nl<|rC<|mf<|aI<|aN Z<|aa (ble Z Z)<|aJ<|gX Z<|bF<|aI<|bV<|rg<| ?_;refine vm Z<|aa (ar hz Z)<| ?_;have ag:=ag.later iC;have MF:∀ q∈Φ.ab (a_ iT),q=bw→False:=λ q I af=>by (have:=Gs q I;omega)
 have ag:=ag.mod iK (λ I=>MF _ I rfl);refine bA Z ag aZ Z<|vm Z<|fi Z Z<|aa (ar hB Z)<|bA Z ag aZ Z<|vm Z<|fi Z Z<|aa (v:= .agg #[γ (p.x+0),γ (p.y+(-1))]) (ht Z)<|b9 (e:= 98) (cs:= [γ (p.x+0),γ (p.y+(-1))]) Z (λ _=>by kernel_rfl) Z λ El aEc jD aHU W0=> ?_;have o0:=J n2 jD;have aKb:=W0.lt;have zn:=zn.later jD;refine ap y8 Φ.cZ zn (aO.fu (R:=ai.rep) (by_:=16) (q:=(⟨p.x+0,p.y+(-1)⟩:ai)) W0 ⟨Z,⟨fZ,fZ⟩⟩ (by decide)) Z Z (by first | (simp<;>omega) | omega) (by first | (simp<;>omega) | omega) o0.size Z λ Em PX aE1 fY EY Sa aI3=> ?_;have:=fY.size;have sX:=Ext.mod o0 fY (λ q I=>(zn.lt q I).1);refine va Z<|nl<|cm<|br<|rg<|vm Z<|aa (q0 (r:=1) Z Z (by decide) (by decide))<|va Z<|nl<|rC<|mf<|aI<|aN Z<|aa (ble Z Z)<|aJ<|gX Z<|bF<|aI<|bV<|rg<| ?_;refine vm Z<|aa (ar hz Z)<| ?_;have ag:=ag.later jD;have mJ:∀ q∈Φ.ab PV,q=bw→False:=λ q I af=>by (exact aMS (R8 q I) (λ adk=>by (exact MF q adk af)) (λ adk=>by omega))
 have ag:=ag.mod fY (λ I=>mJ _ I rfl);refine bA Z ag aZ Z<|vm Z<|fi Z Z<|aa (ar hB Z)<|bA Z ag aZ Z<|vm Z<|fi Z Z<|aa (v:= .agg #[γ (p.x+1),γ (p.y+(-1))]) (ht Z)<|b9 (e:= 98) (cs:= [γ (p.x+1),γ (p.y+(-1))]) Z (λ _=>by kernel_rfl) Z λ KO aEk xo aH1 W4=> ?_;have uL:=J sX xo;have afi:=W4.lt;have EY:=EY.later xo;refine ap y8 Φ.cZ EY (aO.fu (R:=ai.rep) (by_:=16) (q:=(⟨p.x+1,p.y+(-1)⟩:ai)) W4 ⟨Z,⟨fZ,fZ⟩⟩ (by decide)) Z Z (by first | (simp<;>omega) | omega) (by first | (simp<;>omega) | omega) uL.size Z λ Po PZ Mm BR LW Sc aI8=> ?_;have:=BR.size;have uN:=Ext.mod uL BR (λ q I=>(EY.lt q I).1);refine va Z<|nl<|cm<|br<|rg<|vm Z<|aa (q0 (r:=2) Z Z (by decide) (by decide))<|va Z<|nl<|rC<|mf<|aI<|aN Z<|aa (ble Z Z)<|aJ<|hL Z<|er<|ep<|eY<|eo<|cm<| ?_;refine br<|rg<|vm Z<|aa (q0 (r:=0) Z Z (by decide) (by decide))<|va Z<|nl<|rC<|mf<|aI<|aN Z<|aa (ble Z Z)<|aJ<|gX Z<|bF<|aI<|bV<|aG<|va Z<|nl<| ?_;refine br<|bV<|JU 4<|mf<|aI<|aN Z<|aa (ble Z Z)<|aJ<|gX Z<|bF<|aI<|bV<|rg<|vm Z<|aa (ar hz Z)<| ?_;have ag:=ag.later xo;have YV:∀ q∈Φ.ab PX,q=bw→False:=λ q I af=>by (exact aMS (Sa q I) (λ JN=>by (exact mJ q JN af)) (λ JN=>by omega))
 have ag:=ag.mod BR (λ I=>YV _ I rfl);refine bA Z ag aZ Z<|vm Z<|fi Z Z<|aa (ar hB Z)<|bA Z ag aZ Z<|vm Z<|fi Z Z<|aa (v:= .agg #[γ (p.x+(-1)),γ (p.y+0)]) (ht Z)<|b9 (e:= 98) (cs:= [γ (p.x+(-1)),γ (p.y+0)]) Z (λ _=>by kernel_rfl) Z λ Ps aEs K5 aIa W7=> ?_;have qK:=J uN K5;have aKp:=W7.lt;have LW:=LW.later K5;refine ap y8 Φ.cZ LW (aO.fu (R:=ai.rep) (by_:=16) (q:=(⟨p.x+(-1),p.y+0⟩:ai)) W7 ⟨Z,⟨fZ,fZ⟩⟩ (by decide)) Z Z (by first | (simp<;>omega) | omega) (by first | (simp<;>omega) | omega) qK.size Z λ agW EK al5 nL LY Sd aJd=> ?_;have:=nL.size;have Ld:=Ext.mod qK nL (λ q I=>(LW.lt q I).1);refine va Z<|nl<|cm<|br<|rg<|vm Z<|aa (q0 (r:=0) Z Z (by decide) (by decide))<|va Z<|nl<|rC<|mf<|aI<|aN Z<|aa (ble Z Z)<|aJ<|gX Z<|bF<|aI<|bV<|rg<| ?_;refine vm Z<|aa (ar hz Z)<| ?_;have ag:=ag.later K5;have YW:∀ q∈Φ.ab PZ,q=bw→False:=λ q I af=>by (exact aMS (Sc q I) (λ ads=>by (exact YV q ads af)) (λ ads=>by omega))
 have ag:=ag.mod nL (λ I=>YW _ I rfl);refine bA Z ag aZ Z<|vm Z<|fi Z Z<|aa (ar hB Z)<|bA Z ag aZ Z<|vm Z<|fi Z Z<|aa (v:= .agg #[γ (p.x+0),γ (p.y+0)]) (ht Z)<|b9 (e:= 98) (cs:= [γ (p.x+0),γ (p.y+0)]) Z (λ _=>by kernel_rfl) Z λ agI aDM oS aHm WH=> ?_;have Hb:=J Ld oS;have aJx:=WH.lt;have LY:=LY.later oS;refine ap y8 Φ.cZ LY (aO.fu (R:=ai.rep) (by_:=16) (q:=(⟨p.x+0,p.y+0⟩:ai)) WH ⟨Z,⟨fZ,fZ⟩⟩ (by decide)) Z Z (by first | (simp<;>omega) | omega) (by first | (simp<;>omega) | omega) Hb.size Z λ agJ PQ aET yy A3 R4 aIC=> ?_;have:=yy.size;have Hc:=Ext.mod Hb yy (λ q I=>(LY.lt q I).1);refine va Z<|nl<|cm<|br<|rg<|vm Z<|aa (q0 (r:=1) Z Z (by decide) (by decide))<|va Z<|nl<|rC<|mf<|aI<|aN Z<|aa (ble Z Z)<|aJ<|gX Z<|bF<|aI<|bV<|rg<| ?_;refine vm Z<|aa (ar hz Z)<| ?_;have ag:=ag.later oS;have Ir:∀ q∈Φ.ab EK,q=bw→False:=λ q I af=>by (exact aMS (Sd q I) (λ JI=>by (exact YW q JI af)) (λ JI=>by omega))
 have ag:=ag.mod yy (λ I=>Ir _ I rfl);refine bA Z ag aZ Z<|vm Z<|fi Z Z<|aa (ar hB Z)<|bA Z ag aZ Z<|vm Z<|fi Z Z<|aa (v:= .agg #[γ (p.x+1),γ (p.y+0)]) (ht Z)<|b9 (e:= 98) (cs:= [γ (p.x+1),γ (p.y+0)]) Z (λ _=>by kernel_rfl) Z λ aAe aDS KZ aHs WL=> ?_;have PI:=J Hc KZ;have aJD:=WL.lt;have A3:=A3.later KZ;refine ap y8 Φ.cZ A3 (aO.fu (R:=ai.rep) (by_:=16) (q:=(⟨p.x+1,p.y+0⟩:ai)) WL ⟨Z,⟨fZ,fZ⟩⟩ (by decide)) Z Z (by first | (simp<;>omega) | omega) (by first | (simp<;>omega) | omega) PI.size Z λ aAg PR aEU JW LN R5 aIF=> ?_;have:=JW.size;have V1:=Ext.mod PI JW (λ q I=>(A3.lt q I).1);refine va Z<|nl<|cm<|br<|rg<|vm Z<|aa (q0 (r:=2) Z Z (by decide) (by decide))<|va Z<|nl<|rC<|mf<|aI<|aN Z<|aa (ble Z Z)<|aJ<|hL Z<|er<|ep<|eY<|eo<|cm<| ?_;refine br<|rg<|vm Z<|aa (q0 (r:=1) Z Z (by decide) (by decide))<|va Z<|nl<|rC<|mf<|aI<|aN Z<|aa (ble Z Z)<|aJ<|gX Z<|bF<|aI<|bV<|aG<|va Z<|nl<| ?_;refine br<|bV<|JU 4<|mf<|aI<|aN Z<|aa (ble Z Z)<|aJ<|gX Z<|bF<|aI<|bV<|rg<|vm Z<|aa (ar hz Z)<| ?_;have ag:=ag.later KZ;have Yy:∀ q∈Φ.ab PQ,q=bw→False:=λ q I af=>by (exact aMS (R4 q I) (λ JL=>by (exact Ir q JL af)) (λ JL=>by omega))
 have ag:=ag.mod JW (λ I=>Yy _ I rfl);refine bA Z ag aZ Z<|vm Z<|fi Z Z<|aa (ar hB Z)<|bA Z ag aZ Z<|vm Z<|fi Z Z<|aa (v:= .agg #[γ (p.x+(-1)),γ (p.y+1)]) (ht Z)<|b9 (e:= 98) (cs:= [γ (p.x+(-1)),γ (p.y+1)]) Z (λ _=>by kernel_rfl) Z λ aAj XT nX atC xy=> ?_;have PJ:=J V1 nX;have aJG:=xy.lt;have LN:=LN.later nX;refine ap y8 Φ.cZ LN (aO.fu (R:=ai.rep) (by_:=16) (q:=(⟨p.x+(-1),p.y+1⟩:ai)) xy ⟨Z,⟨fZ,fZ⟩⟩ (by decide)) Z Z (by first | (simp<;>omega) | omega) (by first | (simp<;>omega) | omega) PJ.size Z λ aLl PS aEV JY LO R6 aII=> ?_;have:=JY.size;have aBE:=Ext.mod PJ JY (λ q I=>(LN.lt q I).1);refine va Z<|nl<|cm<|br<|rg<|vm Z<|aa (q0 (r:=0) Z Z (by decide) (by decide))<|va Z<|nl<|rC<|mf<|aI<|aN Z<|aa (ble Z Z)<|aJ<|gX Z<|bF<|aI<|bV<|rg<| ?_;refine vm Z<|aa (ar hz Z)<| ?_;have ag:=ag.later nX;have YA:∀ q∈Φ.ab PR,q=bw→False:=λ q I af=>by (exact aMS (R5 q I) (λ JM=>by (exact Yy q JM af)) (λ JM=>by omega))
 have ag:=ag.mod JY (λ I=>YA _ I rfl);refine bA Z ag aZ Z<|vm Z<|fi Z Z<|aa (ar hB Z)<|bA Z ag aZ Z<|vm Z<|fi Z Z<|aa (v:= .agg #[γ (p.x+0),γ (p.y+1)]) (ht Z)<|b9 (e:= 98) (cs:= [γ (p.x+0),γ (p.y+1)]) Z (λ _=>by kernel_rfl) Z λ aLp aDZ K0 aHC WT=> ?_;have ahi:=J aBE K0;have aJL:=WT.lt;have LO:=LO.later K0;refine ap y8 Φ.cZ LO (aO.fu (R:=ai.rep) (by_:=16) (q:=(⟨p.x+0,p.y+1⟩:ai)) WT ⟨Z,⟨fZ,fZ⟩⟩ (by decide)) Z Z (by first | (simp<;>omega) | omega) (by first | (simp<;>omega) | omega) ahi.size Z λ aLu Wt aEW Ol LQ aai aIL=> ?_;have aBM:=Ext.mod ahi Ol (λ q I=>(LO.lt q I).1);refine va Z<|nl<|cm<|br<|rg<|vm Z<|aa (q0 (r:=1) Z Z (by decide) (by decide))<|va Z<|nl<|rC<|mf<|aI<|aN Z<|aa (ble Z Z)<|aJ<|gX Z<|bF<|aI<|bV<|rg<| ?_;refine vm Z<|aa (ar hz Z)<| ?_;have ag:=ag.later K0;have amL:∀ q∈Φ.ab PS,q=bw→False:=λ q I af=>by (exact aMS (R6 q I) (λ acf=>by (exact YA q acf af)) (λ acf=>by omega))
 have ag:=ag.mod Ol (λ I=>amL _ I rfl);refine bA Z ag aZ Z<|vm Z<|fi Z Z<|aa (ar hB Z)<|bA Z ag aZ Z<|vm Z<|fi Z Z<|aa (v:= .agg #[γ (p.x+1),γ (p.y+1)]) (ht Z)<|b9 (e:= 98) (cs:= [γ (p.x+1),γ (p.y+1)]) Z (λ _=>by kernel_rfl) Z λ aAq aD2 PC aHG ait=> ?_;have He:=J aBM PC;have LQ:=LQ.later PC;refine ap y8 Φ.cZ LQ (aO.fu (R:=ai.rep) (by_:=16) (q:=(⟨p.x+1,p.y+1⟩:ai)) ait ⟨Z,⟨fZ,fZ⟩⟩ (by decide)) Z Z (by first | (simp<;>omega) | omega) (by first | (simp<;>omega) | omega) He.size Z λ aLz PT Yk T' xK aFo aIN=> ?_;have aBR:=Ext.mod He T' (λ q I=>(LQ.lt q I).1);refine va Z<|nl<|cm<|br<|rg<|vm Z<|aa (q0 (r:=2) Z Z (by decide) (by decide))<|va Z<|nl<|rC<|mf<|aI<|aN Z<|aa (ble Z Z)<|aJ<|hL Z<|er<|ep<|eY<|eo<|cm<| ?_;refine br<|rg<|vm Z<|aa (q0 (r:=2) Z Z (by decide) (by decide))<|va Z<|nl<|rC<|mf<|aI<|aN Z<|aa (ble Z Z)<|aJ<|hL Z<|er<|ep<|eY<|eo<|br<|aI<|aG<| ?_;refine vm Z<|aa (dC underlying49 Z)<|vm Z<|aJ<|bV<| ?_;have zP: [p]++ [(⟨p.x+(-1),p.y+(-1)⟩:ai)]++ [(⟨p.x+0,p.y+(-1)⟩:ai)]++ [(⟨p.x+1,p.y+(-1)⟩:ai)]++ [(⟨p.x+(-1),p.y+0⟩:ai)]++ [(⟨p.x+0,p.y+0⟩:ai)]++ [(⟨p.x+1,p.y+0⟩:ai)]++ [(⟨p.x+(-1),p.y+1⟩:ai)]++ [(⟨p.x+0,p.y+1⟩:ai)]++ [(⟨p.x+1,p.y+1⟩:ai)]=(ae.around p):=by simp [ae.around,Int.sub_eq_add_neg]
 rw [zP] at xK;have bp:=bp.later (J bm (J bD (J b3 iC)));have YB:∀ q∈Φ.ab (a_ iT),q=S→False:=λ q I af=>by (have:=Gs q I;omega)
 have bp:=(bp.mod iK (λ I=>YB _ I rfl)).later jD;have YC:∀ q∈Φ.ab PV,q=S→False:=λ q I af=>by (exact aMS (R8 q I) (λ ach=>by (exact YB q ach af)) (λ ach=>by omega))
 have bp:=(bp.mod fY (λ I=>YC _ I rfl)).later xo;have YD:∀ q∈Φ.ab PX,q=S→False:=λ q I af=>by (exact aMS (Sa q I) (λ aci=>by (exact YC q aci af)) (λ aci=>by omega))
 have bp:=(bp.mod BR (λ I=>YD _ I rfl)).later K5;have YE:∀ q∈Φ.ab PZ,q=S→False:=λ q I af=>by (exact aMS (Sc q I) (λ acj=>by (exact YD q acj af)) (λ acj=>by omega))
 have bp:=(bp.mod nL (λ I=>YE _ I rfl)).later oS;have YF:∀ q∈Φ.ab EK,q=S→False:=λ q I af=>by (exact aMS (Sd q I) (λ ack=>by (exact YE q ack af)) (λ ack=>by omega))
 have bp:=(bp.mod yy (λ I=>YF _ I rfl)).later KZ;have YG:∀ q∈Φ.ab PQ,q=S→False:=λ q I af=>by (exact aMS (R4 q I) (λ acm=>by (exact YF q acm af)) (λ acm=>by omega))
 have bp:=(bp.mod JW (λ I=>YG _ I rfl)).later nX;have YH:∀ q∈Φ.ab PR,q=S→False:=λ q I af=>by (exact aMS (R5 q I) (λ acn=>by (exact YG q acn af)) (λ acn=>by omega))
 have bp:=(bp.mod JY (λ I=>YH _ I rfl)).later K0;have YI:∀ q∈Φ.ab PS,q=S→False:=λ q I af=>by (exact aMS (R6 q I) (λ aco=>by (exact YH q aco af)) (λ aco=>by omega))
 have bp:=(bp.mod Ol (λ I=>YI _ I rfl)).later PC;have amN:∀ q∈Φ.ab Wt,q=S→False:=λ q I af=>by (exact aMS (aai q I) (λ acp=>by (exact YI q acp af)) (λ acp=>by omega))
 have bp:=bp.mod T' (λ I=>amN _ I rfl);have aF:=aF.later (J b3 iC);have YJ:∀ q∈Φ.ab (a_ iT),q=dI→False:=λ q I af=>by (have:=Gs q I;omega)
 have aF:=(aF.mod iK (λ I=>YJ _ I rfl)).later jD;have YK:∀ q∈Φ.ab PV,q=dI→False:=λ q I af=>by (exact aMS (R8 q I) (λ acq=>by (exact YJ q acq af)) (λ acq=>by omega))
 have aF:=(aF.mod fY (λ I=>YK _ I rfl)).later xo;have YL:∀ q∈Φ.ab PX,q=dI→False:=λ q I af=>by (exact aMS (Sa q I) (λ acr=>by (exact YK q acr af)) (λ acr=>by omega))
 have aF:=(aF.mod BR (λ I=>YL _ I rfl)).later K5;have YM:∀ q∈Φ.ab PZ,q=dI→False:=λ q I af=>by (exact aMS (Sc q I) (λ acs=>by (exact YL q acs af)) (λ acs=>by omega))
 have aF:=(aF.mod nL (λ I=>YM _ I rfl)).later oS;have YN:∀ q∈Φ.ab EK,q=dI→False:=λ q I af=>by (exact aMS (Sd q I) (λ acu=>by (exact YM q acu af)) (λ acu=>by omega))
 have aF:=(aF.mod yy (λ I=>YN _ I rfl)).later KZ;have YO:∀ q∈Φ.ab PQ,q=dI→False:=λ q I af=>by (exact aMS (R4 q I) (λ acw=>by (exact YN q acw af)) (λ acw=>by omega))
 have aF:=(aF.mod JW (λ I=>YO _ I rfl)).later nX;have YP:∀ q∈Φ.ab PR,q=dI→False:=λ q I af=>by (exact aMS (R5 q I) (λ acx=>by (exact YO q acx af)) (λ acx=>by omega))
 have aF:=(aF.mod JY (λ I=>YP _ I rfl)).later K0;have YQ:∀ q∈Φ.ab PS,q=dI→False:=λ q I af=>by (exact aMS (R6 q I) (λ acy=>by (exact YP q acy af)) (λ acy=>by omega))
 have aF:=(aF.mod Ol (λ I=>YQ _ I rfl)).later PC;have amP:∀ q∈Φ.ab Wt,q=dI→False:=λ q I af=>by (exact aMS (aai q I) (λ acz=>by (exact YQ q acz af)) (λ acz=>by omega))
 have aF:=aF.mod T' (λ I=>amP _ I rfl);refine gh (λ cL cw aV=>∃ k:Nat,cw= [(0, .pointer (a_ S)),(4, .pointer (a_ dI)),(35, .slice PT ((ae.around p).length) Yk),(36,γ 10),(37,γ (k:Int))]∧cL=10 - k∧Ext w aV∧aO aV S (ae.cells a W) 189 (0,0)∧aO aV dI [γ 0,γ 0] 98 (0,0)∧ai.rep.aL 98 16 aV w.heap.size (Φ.ab PT) PT Yk ((ae.around p))∧(k≤10)∧(∀ j,j<k→W.BW ((ae.around p).getD j default)=false)) _ _ ⟨0,Z,Z,aBR,bp,aF,xK,by omega,λ j aw=>absurd aw (by omega)⟩ (.cons Z (.cons Z (.cons Z (.cons (rp Z) (eV Z Z Z))))) ?_;rintro aIo aC3 aLD ⟨k,rfl,rfl,ahj,bp,aF,xK,aj,jr⟩;have aJR:=bp.lt;have aJS:=aF.lt;have azS:=bY xK.lt;refine aG<|fI Z Z<|aJ<|aI<| ?_;refine fM Z (λ aqr=> ?_) (λ aqr=> ?_)
 ·refine bF<|aI<|bV<|aG<|aa (bX k underlying49 bs Z Z (xK.has.bx (a1 k (by show k<10;omega))) Z (by show k<10;omega))<|aa (aA Z (Φ.aQ.jG vP (by rw [← xK.has.bx (a1 k (by show k<10;omega))];exact xK.has) (cl (l:=(ae.around p)) (u:=default) (by show k<10;omega)) b0 bs))<|dj sk Z λ aAt QV nZ atG o1=> ?_;have Wb:=J ahj nZ;refine c6 Z Z o1 Z bs Z Z λ aLN JZ o1=> ?_;have ahl:=Ext.mod Wb JZ bE;refine aJ<|aI<| ?_;refine du [(4,0),(5,0),(6,0)] [0,1,2,3,4,5,6,7,8,9,10,11] ?_;refine bn Z Z<|ax Z (λ _=>b1 Z)<|ax Z (λ _=>ar l8 Z)<|ax Z (λ _=>ar pZ Z)<| ?_;have bp:=(bp.later nZ).mod JZ aY;refine cR Z (λ _ x=>aA Z ((bp.later x).par [γ W.field.wide,γ W.field.high, .slice a.P W.field.places.length a.p] gZ gy Z))<|cR Z (λ _ x=>aA Z ((o1.later x).all b0 bs))<|q8 Z Z o8 Z (λ _ x=>RU W.field ((ae.around p).getD k default) a.P a.p _ (Qi.keep (ahl.nT x))) Z<|bn Z Z<|ax Z (λ _=>ex Z Z)<|ax Z (λ _=>ex Z Z)<|ax Z (λ _=>eQ Z)<|ax Z (λ _=>eQ Z)<|fn λ aLQ K1=> ?_;have ahm:=J ahl K1;refine br<|aN Z<|aa (beq Z Z)<|vm Z<|gw Z Z<|cb Z (λ hc=>bne (gt hc Z) Z)<|aa (fG Z Z Z Z)<|vm Z<|gw Z Z<|cb Z (λ hc=>b1 (gt hc Z))<|cb Z (λ hc=>ar l8 (gt hc Z))<|cb Z (λ hc=>ar kf (gt hc Z))<| ?_;have bp:=bp.later K1;refine cb Z (λ hc=>aA (gt hc Z) (bp.one l9 Z))<|cb Z (λ hc=>J_ Z Z)<| ?_;have o1:=o1.later K1;refine yN Z anJ (λ hc=>gG (gt hc Z) (gG (gt hc Z) Z)) (λ hc=>aqJ ((ae.around p).getD k default) QV a.T a.t W.ah _ (uZ.keep ahm) ⟨o1.cell 0,o1.cell 1⟩) λ aLR K2=> ?_;have ahn:=J ahm K2;refine cb Z (λ hc=>dH (gt hc Z))<|aa (fG Z Z Z Z)<|aJ<| ?_;refine c_ Z (λ SC=> ?_) (λ SC=> ?_)
  ·rw [aeR av.field] at SC;refine aG<| ?_;have o1:=o1.later K2;refine aa (aA Z (o1.all b0 bs))<| ?_;have aF:=((aF.later nZ).mod JZ aY).later (J K1 K2);refine c6 Z Z aF Z bs Z Z λ aLU avd aF=> ?_;have aB7:=Ext.mod ahn avd bE;refine bL Z<|hk<|cW<|Ee<|hk<|cW<|dR (.cell Z (aF.all b0 bs) (.tmp Z .nil))<| ?_;exact ⟨by rw [apF (by omega) jr ‹_›];rfl,aB7⟩
  ·rw [aeR av.field] at SC;refine gb<|cm<|eR Z Z Z<| ?_;have bp:=bp.later K2;have ee:=(J K1 K2);have aF:=((aF.later nZ).mod JZ aY).later ee;have xK:=((xK.later nZ).mod JZ (bk azS)).later ee;exact fh ⟨k+1,Z,Z,ahn,bp,aF,xK,by omega,DK jr (by assumption)⟩
 ·refine er<|ep<|eY<|eo<|br<|aG<|aa (v:= .agg #[γ 0,γ 0]) (ht Z)<|c6 Z Z aF Z bs Z Z λ aAu ave aF=> ?_;have Wc:=Ext.mod ahj ave bE;refine bL Z<|dR (.cell Z (aF.all b0 bs) (.tmp Z .nil))<| ?_;exact ⟨by rw [apE (λ j aw=>jr j (by omega))];rfl,Wc⟩
end
section
variable {d:c9} {c:ai}
theorem aiT:dL prog a8.rep 50 108 56:=dL.jw (z:=a8.zero) (k:=7) underlying50 a8.info rfl rfl (by decide) a8.k3
theorem axg (k:Int):0≤ae.kW k∧ae.kW k≤12:=by unfold ae.kW;split<;>(try split)<;>omega
theorem auz (k:Int):0≤ae.hg k∧ae.hg k≤20:=by unfold ae.hg;split<;>(try split)<;>omega
theorem adu {k:Int}:(qf k != 0)= !cJ k 1 2:=by
 unfold qf;by_cases κ:k=1
 ·subst κ;rfl
 ·by_cases τ:k=2
  ·subst τ;rfl
  ·rw [aMA κ,aMA τ,oB (by omega)];rfl
theorem arv {W:ae} (av:Good W) (h:(((((decide (d.bf<0) || decide ((W.bj.length:Int)≤d.bf)) || qf d.what != 0) || decide (W.bh.getD d.bf.toNat 0<ae.kW d.what)) || decide (100≤(W.ah.length:Int))) || decide (1000000≤W.next))=false):
  0≤d.bf∧d.bf<(W.bj.length:Int)∧cJ d.what 1 2=true∧ae.kW d.what≤W.bh.getD d.bf.toNat 0∧W.ah.length<100∧W.next<1000000:=by
 simp only [aNj,aMC,adu,aO8] at h;obtain ⟨⟨⟨⟨⟨κ,τ⟩,aq⟩,bb⟩,bT⟩,cy⟩:=h;exact ⟨by omega,by omega,aq,by omega,by omega,by omega⟩
theorem abn {W:ae} (av:Good W) (h:(((((decide (d.bf<0) || decide ((W.bj.length:Int)≤d.bf)) || qf d.what != 0) || decide (W.bh.getD d.bf.toNat 0<ae.kW d.what)) || decide (100≤(W.ah.length:Int))) || decide (1000000≤W.next))=true):W.qa d=none:=by
 unfold ae.qa;rw [aMA];intro hc;simp only [aMF,aMD] at hc;obtain ⟨⟨⟨⟨bd,bP⟩,c3⟩,c4⟩,c5⟩:=hc;have bd:=jt bd;simp only [adu,bP,aNa,aMD,aOE,aNm,aOM] at h;omega
theorem abm {W:ae} (κ:0≤d.bf) (τ:d.bf<(W.bj.length:Int)) (aq:cJ d.what 1 2=true) (bb:ae.kW d.what≤W.bh.getD d.bf.toNat 0) (bT:W.ah.length<100) (cy:W.next<1000000):
  (cJ d.bf 0 ((W.bj.length:Int) - 1) && cJ d.what 1 2 && decide (ae.kW d.what≤W.bh.getD d.bf.toNat 0) && decide (W.ah.length<100) && decide (W.next<1000000))=true:=by
 rw [ma κ (by omega),aq,aMV bb,aMV bT,aMV cy];rfl
theorem abo {W:ae} (κ:0≤d.bf) (τ:d.bf<(W.bj.length:Int)) (aq:cJ d.what 1 2=true) (bb:ae.kW d.what≤W.bh.getD d.bf.toNat 0) (bT:W.ah.length<100) (cy:W.next<1000000) (h:(!(W.free (W.bj.getD d.bf.toNat default)).isSome)=true):W.qa d=none:=by
 unfold ae.qa;simp only [abm κ τ aq bb bT cy,aN5];rw [aNF,Option.isSome_eq_false_iff,Option.isNone_iff_eq_none] at h;rw [h]
theorem aru {W:ae} (κ:0≤d.bf) (τ:d.bf<(W.bj.length:Int)) (aq:cJ d.what 1 2=true) (bb:ae.kW d.what≤W.bh.getD d.bf.toNat 0) (bT:W.ah.length<100) (cy:W.next<1000000) (hc:(W.free (W.bj.getD d.bf.toNat default)).getD ⟨0,0⟩=c) (h:(!(W.free (W.bj.getD d.bf.toNat default)).isSome)=false):
  W.qa d=some {W with ah:=W.ah++ [⟨W.next,d.bf,d.what,c,ae.hg d.what,0⟩],next:=W.next+1,bh:=W.bh.set d.bf.toNat (W.bh.getD d.bf.toNat 0 - ae.kW d.what)}:=by
 unfold ae.qa;simp only [abm κ τ aq bb bT cy,aN5];cases hf:W.free (W.bj.getD d.bf.toNat default) with
 | none=>rw [hf] at h;cases h
 | some cn=>rw [hf] at hc;obtain rfl:cn=c:=hc;rfl
theorem art {W:ae} (av:Good W) (κ:0≤d.bf) (τ:d.bf<(W.bj.length:Int)):(0≤(W.bj.getD d.bf.toNat default).x∧(W.bj.getD d.bf.toNat default).x≤100∧0≤(W.bj.getD d.bf.toNat default).y∧(W.bj.getD d.bf.toNat default).y≤100)∧d.bf.toNat<W.bj.length:=by
 have bB:d.bf.toNat<W.bj.length:=by omega
 have:=(av.bj _ _ (cl (u:=default) bB)).1;obtain ⟨i1,i2,i3,i4,i5,i6⟩:=au.idx av.field (au.jn this);obtain ⟨uK,qJ,sS,sT,_,_⟩:=au.g_ av.field;exact ⟨⟨by omega,by omega,by omega,by omega⟩,bB⟩
theorem apD {W:ae} {p:ai} (hp:0≤p.x∧p.x≤100∧0≤p.y∧p.y≤100) (hc:(W.free p).getD ⟨0,0⟩=c): -1≤c.x∧c.x≤101∧ -1≤c.y∧c.y≤101:=by
 cases hf:W.free p with
 | none=>rw [hf] at hc;subst hc;decide
 | some q =>
  rw [hf] at hc;obtain rfl:q=c:=hc;have:=aPb hf;simp only [ae.around,aMN,aN7,aOM] at this;rcases this with rfl | rfl | rfl | rfl | rfl | rfl | rfl | rfl | rfl | rfl<;>(try dsimp only)<;>omega
theorem arq (d:c9) (w:World) (az S:Nat) (a:ae.cU) (W:ae) (h:kN w az S a W) (av:Good W):
  Calls prog 145 #[.pointer (a_ S), .agg #[γ d.kind,γ d.bf,γ d.spot.x,γ d.spot.y,γ d.what]] w (vt W (W.qa d) w az S a):=by
 have yo:=av.sl;have j5:=h.low;have hX:=h.far;have sH:=h.eh.lt;have bp:=h.eh;have bc:=h.own;have fw:=bY bc.lt;have zA:∀ q∈bt.cA a,q=S→False:=λ q I af=>hX (af ▸ I);refine cx (n:=126) func145 Z Z Z ?_;refine eW Z Z λ xb CS nh N9 fz=> ?_;have kL:=(Mod.bM (S::bt.cA a) w).trans (Mod.aP nh);have aKk:=fz.lt;refine aU Z<|aG<|aa (ar Zp Z)<|bA Z fz aZ Z<|de MW Z (N7 d.what _) λ uo bD=> ?_;have:=bD.size;have je:=kL.trans (Mod.aP bD);refine vm Z<|b2 Z Z<|b2 Z Z<|dj MX Z λ xa zr dY atD n5=> ?_;have iQ:=je.trans (Mod.aP dY);have afe:=n5.lt;refine c6 Z Z n5 Z MY Z Z λ qE oE n5=> ?_;have:=oE.size;have lX:=iQ.md oE (λ q I=> .inr (by have:=aMu.1 I;omega));refine aU Z<|aI<|aI<| ?_;refine du [(1,0),(5,0),(10,0),(23,0),(25,0),(27,0),(29,0),(37,0),(46,0)] [0,1,2,3,4,5,6,7,8,9,10,11,12,13,14,15,16,17,18,19,20,21,22,23,24,25,26,27,28,29,30,31,32,33,34,35,36,37,38,39,40,41,42,43,44,45,46,47,48] ?_;refine ax Z (λ _=>ar xY Z)<| ?_;have fz:=(fz.later (J bD dY)).mod oE aY;refine cO Z Z fz aZ Z<|ax Z (λ _=>blt Z Z)<|bn Z Z<|bQ Z Z (λ hc _=>ar xY Z)<|dB Z Z (λ hc _ x=>aA (gt hc Z) ((fz.later x).one aZ Z))<|eP Z Z Z<|bQ Z Z (λ hc _=>b1 (gt hc Z))<|bQ Z Z (λ hc _=>ar l8 (gt hc Z))<|bQ Z Z (λ hc _=>ar sq (gt hc Z))<| ?_;have bp:=(bp.later (J nh (J bD dY))).mod oE aY;refine dB Z Z (λ hc _ x=>aA (gt hc Z) ((bp.later x).one x' Z))<|bQ Z Z (λ hc _=>dC underlying49 (gt hc Z))<|bQ Z Z (λ hc _=>k7 (gt hc Z) (gt hc Z))<|ax Z (λ _=>gq Z Z Z Z)<|bn Z Z<|eP Z Z Z<|bQ Z Z (λ hc _=>bne (gt hc Z) Z)<|ax Z (λ _=>gq Z Z Z Z)<|bn Z Z<|eP Z Z Z<|bQ Z Z (λ hc _=>b1 (gt hc Z))<|bQ Z Z (λ hc _=>ar l8 (gt hc Z))<|bQ Z Z (λ hc _=>ar tv (gt hc Z))<|dB Z Z (λ hc _ x=>aA (gt hc Z) ((bp.later x).one fC Z))<|bQ Z Z (λ hc _=>ar xY Z)<|dB Z Z (λ hc _ x=>aA (gt hc Z) ((fz.later x).one aZ Z))<| ?_;have bc:=(bc.later (J nh (J bD dY))).mod oE (bk fw);refine bQ Z Z (λ hc _=>bX d.bf.toNat underlying46 cr (gt hc Z) (gt hc Z) (bc.S.has.bx (a1 d.bf.toNat (by (try simp only [cq] at hc);omega))) (by (try simp only [cq] at hc);omega) (by (try simp only [cq] at hc);omega))<|dB Z Z (λ hc _ x=>aA (gt hc Z) (Φ.aQ.dm dy (by rw [← (bc.later x).S.has.bx (a1 d.bf.toNat (by (try simp only [cq] at hc);omega))];exact (bc.later x).S.has) (cl (l:=W.bh) (u:=0) (by (try simp only [cq] at hc);omega)) Z aZ))<|bQ Z Z (λ hc _=>ar Zq Z)<|dB Z Z (λ hc _ x=>aA (gt hc Z) ((n5.later x).one aZ Z))<|bQ Z Z (λ hc _=>blt (gt hc Z) (gt hc Z))<|ax Z (λ _=>gq Z Z Z Z)<|bn Z Z<|eP Z Z Z<|bQ Z Z (λ hc _=>b1 (gt hc Z))<|bQ Z Z (λ hc _=>ar l8 (gt hc Z))<|bQ Z Z (λ hc _=>ar kf (gt hc Z))<|dB Z Z (λ hc _ x=>aA (gt hc Z) ((bp.later x).one l9 Z))<|bQ Z Z (λ hc _=>dC underlying50 (gt hc Z))<|bQ Z Z (λ hc _=>k7 (gt hc Z) Z)<|ax Z (λ _=>gq Z Z Z Z)<|bn Z Z<|eP Z Z Z<|bQ Z Z (λ hc _=>b1 (gt hc Z))<|bQ Z Z (λ hc _=>ar l8 (gt hc Z))<|bQ Z Z (λ hc _=>ar Bi (gt hc Z))<|dB Z Z (λ hc _ x=>aA (gt hc Z) ((bp.later x).one aZ Z))<|bQ Z Z (λ hc _=>k7 (gt hc Z) Z)<|ax Z (λ _=>gq Z Z Z Z)<|fn λ KL iC=> ?_;have:=iC.size;have pI:=lX.trans (Mod.aP iC);refine br<| ?_;refine c_ Z (λ vM=> ?_) (λ vM=> ?_)
 ·refine aG<|bL Z<|cW<|c' Z Z<| ?_;have bp:=bp.later iC;have bc:=bc.later iC;exact ⟨a,by rw [abn av vM];rfl,by rw [abn av vM];exact ⟨bp,bc,hX,j5⟩,λ q I=> .inl I,pI⟩
 ·obtain ⟨κ,τ,aq,bb,bT,cy⟩:=arv av vM;obtain ⟨ow,bB⟩:=art av κ τ;have iZ:=av.bh _ _ (cl (u:=0) (l:=W.bh) (j:=d.bf.toNat) (by omega));obtain ⟨c,hc⟩:∃ c,(W.free (W.bj.getD d.bf.toNat default)).getD ⟨0,0⟩=c:=⟨_,rfl⟩;have aGx:=axg d.what;have aGP:=jt aq;have tH:=av.next;have Dk:=av.gU;have aFK:=apD ow hc;refine bF<|aI<| ?_;refine du [(5,0),(7,0),(9,0),(10,0),(14,2),(15,3)] [0,1,2,3,4,5,6,7,8,9,10,11,12,13,14,15,16] ?_;refine bn Z Z<|bn Z Z<|ax Z (λ _=>b1 Z)<|ax Z (λ _=>ar l8 Z)<|ax Z (λ _=>ar sq Z)<| ?_;have bp:=bp.later iC;refine cO Z Z bp x' Z<|ax Z (λ _=>ar xY Z)<| ?_;have fz:=fz.later iC;refine cO Z Z fz aZ Z<| ?_;have bc:=bc.later iC;refine ax Z (λ _=>bX d.bf.toNat underlying49 bs Z Z (bc.B.has.bx (a1 d.bf.toNat)) (by omega) (by omega))<|cR Z (λ _ x=>aA Z (Φ.aQ.jG vP (by rw [← (bc.later x).B.has.bx (a1 d.bf.toNat)];exact (bc.later x).B.has) (cl (l:=W.bj) (u:=default) (by omega)) b0 bs))<|q8 Z Z anK Z (λ _ x=>apC (W.bj.getD d.bf.toNat default) _ az S a W (⟨(bp.later x),(bc.later x),hX,j5⟩) av ow) Z<|bn Z Z<|ax Z (λ _=>ex Z Z)<|ax Z (λ _=>ex Z Z)<|fS Z Z Z λ Ei fx Q hK=>dj sk Z λ Ca aD5 lT aHL EM=>hK _ _ ⟨J fx lT, ?_⟩;have:=fx.size;have lZ:=pI.trans (Mod.aP fx);have oZ:=lZ.trans (Mod.aP lT);have axy:=EM.lt;refine dA Z Z Z λ xc jB Q hK=>st Z Z (EM.later jB) Z bs Z Z Z λ sN lh EM=>hK _ _ ?_;have:=jB.size;have jT:=oZ.trans (Mod.aP jB);have:=lh.size;have k1:=jT.md lh (λ q I=> .inr (by have:=aMu.1 I;omega));refine ax Z (λ _=>eQ Z)<|fn λ VA jD=> ?_;have:=jD.size;have sV:=k1.trans (Mod.aP jD);refine br<|aI<|aN Z<|aa (dH Z)<|aJ<| ?_;refine c_ Z (λ Nx=> ?_) (λ Nx=> ?_)
  ·refine aG<|bL Z<|cW<|c' Z Z<| ?_;have ee:=ud (tO (J fx (J lT jB)) lh) jD;have bp:=bp.mod ee aY;have bc:=bc.mod ee (bk fw);exact ⟨a,by rw [abo κ τ aq bb bT cy Nx];rfl,by rw [abo κ τ aq bb bT cy Nx];exact ⟨bp,bc,hX,j5⟩,λ q I=> .inl I,sV⟩
  ·refine bF<|aI<| ?_;refine du [(5,0),(10,0),(12,0),(14,0),(15,0),(17,0),(19,2),(20,3),(24,3)] [0,1,2,3,4,5,6,7,8,9,10,11,12,13,14,15,16,17,18,19,20,21,22,23,24] ?_;refine bn Z Z<|bn Z Z<|ax Z (λ _=>b1 Z)<|ax Z (λ _=>ar l8 Z)<|ax Z (λ _=>ar kf Z)<| ?_;have bp:=((bp.later (J fx (J lT jB))).mod lh aY).later jD;refine cO Z Z bp l9 Z<|bn Z Z<|ax Z (λ _=>b1 Z)<|ax Z (λ _=>ar l8 Z)<|ax Z (λ _=>ar Bi Z)<|cO Z Z bp aZ Z<|ax Z (λ _=>ar xY Z)<| ?_;have fz:=((fz.later (J fx (J lT jB))).mod lh aY).later jD;refine cO Z Z fz aZ Z<|ax Z (λ _=>ar Zp Z)<|cO Z Z fz aZ Z<| ?_;have EM:=EM.later jD;refine cR Z (λ _ x=>aA Z ((EM.later x).all b0 bs))<|ax Z (λ _=>ar Zr Z)<| ?_;have n5:=((n5.later (J iC (J fx (J lT jB)))).mod lh aY).later jD;refine cO Z Z n5 aZ Z<|ki (v:= .agg #[γ W.next,γ d.bf,γ d.what,γ ((((W.free (W.bj.getD d.bf.toNat default)).getD ⟨0,0⟩)).x),γ ((((W.free (W.bj.getD d.bf.toNat default)).getD ⟨0,0⟩)).y),γ (ae.hg d.what),γ 0]) Z Z (λ _=>gO Z (by kernel_rfl)) Z<|fS Z Z Z λ Pk uF Q hK=>b9 (e:= 108) (cs:= [γ W.next,γ d.bf,γ d.what,γ ((((W.free (W.bj.getD d.bf.toNat default)).getD ⟨0,0⟩)).x),γ ((((W.free (W.bj.getD d.bf.toNat default)).getD ⟨0,0⟩)).y),γ (ae.hg d.what),γ 0]) Z (λ _=>by kernel_rfl) Z λ Em vz ir adH Cx=>hK _ _ ⟨J uF ir, ?_⟩;have:=uF.size;have sW:=sV.trans (Mod.aP uF);have sX:=sW.trans (Mod.aP ir);have afh:=Cx.lt;have bc:=((bc.later (J fx (J lT jB))).mod lh (bk fw)).later (J jD (J uF ir));refine dA Z Z Z λ agP AF Q hK=>ap aiT Φ.cZ (bc.later AF).T ((aO.fu (R:=a8.rep) (by_:=56) (q:=(⟨W.next,d.bf,d.what,c,ae.hg d.what,0⟩:a8)) Cx ⟨(by rw [← hc];rfl),cH.2 (by dsimp only;omega),cH.2 (by dsimp only;omega),cH.2 (by dsimp only;omega),cH.2 (by dsimp only;omega),cH.2 (by dsimp only;omega),cH.2 (by dsimp only;have:=auz d.what;omega),cH.2 (by dsimp only;omega)⟩ (by decide)).keep AF) Z Z (by simp;omega) (by simp;omega) (by have:=AF.size;omega) Z λ Pl Wz E_ lK aj3 Sb aI5=>hK _ _ ?_;have:=AF.size;have Hg:=sX.trans (Mod.aP AF);have bc:=bc.later AF;have bp:=bp.later (J uF (J ir AF));have AN:=Hg.md lK (λ q I=> .inl (aMK _ (o9 I)));have s4:=bc.swapT lK aj3 Sb;have Mv:∀ q∈bt.cA {a with T:=Wz,t:=E_},q=S→False:=λ q I af=>(Z' (az:=az) (w:=w) (W:=W) I).elim (λ h=>zA q h af) (λ h=>(Sb q h).elim (λ τ=>zA q (o9 τ) af) (λ τ=>by omega));have amV:∀ q∈Φ.ab a.T,q=S→False:=λ q I af=>by (exact zA q (o9 I) af)
   have bp:=bp.mod lK (λ I=>amV _ I rfl);refine ax Z (λ _=>b1 Z)<|ax Z (λ _=>ar l8 Z)<|ax Z (λ _=>ar kf Z)<|dA Z Z Z λ VF kK Q hK=>fH Z Z (bp.later kK) Z IC Z Z λ agT BS bp=>hK _ _ ?_;have Hh:=AN.trans (Mod.aP kK);have Lb:=Hh.md BS kV;refine fn λ Ep uI=> ?_;have jV:=Lb.trans (Mod.aP uI);refine br<|aN Z<|aa (b1 Z)<|aa (ar l8 Z)<|aa (ar Bi Z)<| ?_;have bp:=bp.later uI;refine bA Z bp aZ Z<|fi Z Z<|aa (b1 Z)<|aa (ar l8 Z)<|aa (ar Bi Z)<|fH Z Z bp Z cr Z Z λ G4 h' bp=> ?_;have n4:=jV.md h' kV;refine aJ<|aI<| ?_;refine du [(4,0),(6,0),(8,0),(10,0),(13,3)] [0,1,2,3,4,5,6,7,8,9,10,11,12,13] ?_;refine bn Z Z<|ax Z (λ _=>b1 Z)<|ax Z (λ _=>ar l8 Z)<|ax Z (λ _=>ar tv Z)<|cO Z Z bp fC Z<|ax Z (λ _=>ar xY Z)<| ?_;have fz:=fz.later (J uF (J ir AF));have amW:∀ q∈Φ.ab a.T,q=CS→False:=λ q I af=>by (have:=fw q (o9 I);omega)
   have fz:=((((fz.mod lK (λ I=>amW _ I rfl)).later kK).mod BS aY).later uI).mod h' aY;refine cO Z Z fz aZ Z<| ?_;have s4:=(((s4.later kK).mod BS (cY Mv)).later uI).mod h' (cY Mv);refine ax Z (λ _=>bX d.bf.toNat underlying46 cr Z Z (s4.S.has.bx (a1 d.bf.toNat (by show d.bf.toNat<W.bh.length;omega))) (by omega) (by show d.bf.toNat<W.bh.length;omega))<|cR Z (λ _ x=>aA Z (Φ.aQ.dm dy (by rw [← (s4.later x).S.has.bx (a1 d.bf.toNat (by show d.bf.toNat<W.bh.length;omega))];exact (s4.later x).S.has) (cl (l:=W.bh) (u:=0) (by show d.bf.toNat<W.bh.length;omega)) Z aZ))<|ax Z (λ _=>ar Zq Z)<| ?_;have n5:=n5.later (J uF (J ir AF));have amX:∀ q∈Φ.ab a.T,q=zr→False:=λ q I af=>by (have:=fw q (o9 I);omega)
   have n5:=((((n5.mod lK (λ I=>amX _ I rfl)).later kK).mod BS aY).later uI).mod h' aY;refine cO Z Z n5 aZ Z<|ax Z (λ _=>iH Z Z fN)<|ax Z (λ _=>bX d.bf.toNat underlying46 cr Z Z (s4.S.has.bx (a1 d.bf.toNat (by show d.bf.toNat<W.bh.length;omega))) (by omega) (by show d.bf.toNat<W.bh.length;omega))<|dA Z Z Z λ aMm PG Q hK=>so (q':=W.bh.getD d.bf.toNat 0 - ae.kW d.what) (j:=0) (i:=d.bf.toNat) (s4.later PG).S Φ.cZ (cl (u:=0) (l:=W.bh) (by omega)) Z Z Z Z (λ _ cs h=>by obtain rfl:=dy h;exact ⟨rfl,cH.2 (by omega)⟩) Z Z cr λ agX tS akd=>hK _ _ ?_;have aCu:=n4.trans (Mod.aP PG);have s4:=s4.later PG;have bp:=bp.later PG;have Hj:=aCu.md tS (λ q I=> .inl (aMK _ (Bn (a:=a) I)));have ER:=s4.afS tS akd;have Rf:∀ q∈Φ.ab a.S,q=S→False:=λ q I af=>by (exact Mv q (Bn I) af)
   have bp:=bp.mod tS (λ I=>Rf _ I rfl);refine fn λ ag0 lR=> ?_;have Lf:=Hj.trans (Mod.aP lR);refine br<|aG<|bL Z<|c' Z Z<| ?_;have bp:=bp.later lR;have ER:=ER.later lR;rw [aru κ τ aq bb bT cy hc Nx];exact ⟨{a with T:=Wz,t:=E_},Z,⟨by simpa [ae.cells] using bp,ER.UQ rfl rfl rfl rfl rfl ⟨ER.nums.1,ER.nums.2.1,cH.2 (by show -9223372036854775808≤W.next+1∧W.next+1≤9223372036854775807;omega),ER.nums.2.2.2⟩,λ I=>Mv _ I rfl,j5⟩,λ q I=>(Z' (az:=az) (w:=w) (W:=W) I).elim .inl (λ h=>(Sb q h).elim (λ h=> .inl (o9 h)) (λ h=> .inr (by omega))),Lf⟩
end
end Go.Proofs.YthlpmldmhakhaaaGreatDoor
