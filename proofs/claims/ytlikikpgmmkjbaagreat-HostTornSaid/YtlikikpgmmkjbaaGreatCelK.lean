import Derived.Test.YtlikikpgmmkjbaaGreatGolR
set_option linter.unusedVariables false
set_option linter.unusedSimpArgs false
set_option maxRecDepth 100000
set_option maxHeartbeats 4000000
open Go.RowKit
namespace Go.Proofs.YtlikikpgmmkjbaaGreat
open Tryz
abbrev aQ2:=@Or.elim
abbrev aRg:=@decide_eq_true_eq
abbrev aRk:=@List.length_replicate
abbrev aRu:=@decide_eq_false_iff_not
abbrev aRy:=@Bool.or_eq_false_iff
abbrev aSf:=@List.filter_cons
abbrev aSj:=@List.mem_of_mem_take
abbrev aSo:=@List.range_succ
abbrev aSr:=@Nat.le_of_eq
abbrev aSA:=@List.drop_eq_getElem_cons
abbrev aSL:=@List.set_cons_zero
abbrev aSM:=@List.set_cons_succ
abbrev aSP:=@Bool.not_true
abbrev aS5:=@List.map_take
abbrev aS8:=@List.mem_filter
abbrev aTw:=@decide_false
abbrev aTz:=@Int.add_mul_emod_self_right
abbrev aTG:=@List.mem_of_find?_eq_some
abbrev aTK:=@decide_true
abbrev aTQ:=@Bool.false_or
abbrev aT2:=@List.find?_some
abbrev aUg:=@List.take_take
abbrev aUm:=@Bool.not_false
abbrev aUs:=@Bool.or_false
abbrev aUK:=@Int.sub_self
abbrev aUL:=@Int.emod_eq_of_lt
abbrev aUM:=@Int.add_comm
abbrev aUN:=@Bool.true_or
abbrev aUO:=@Bool.or_true
abbrev aVa:=@Int.tdiv_eq_ediv_of_nonneg
section
namespace τ
variable {α:Type} {R:τ α}
theorem aG.atc {E by_ B c:Nat} {A:Option Addr} {l:List α} {w:World} {ps:List (List Nat×List Value)} (hp:R.v7) (dE:c0 (λ x a=>R.own w B x.1 x.2 a) ps l):∀ y∈ps,y.1= []:=λ y aK=>by
 obtain ⟨b,Φ⟩:=dE.left y aK;exact hp.2 Φ
theorem atb {ps:List (List Nat×List Value)} (h:∀ y∈ps,y.1= []):(ps.map (·.1)).flatten= []:=by
 rw [aVp];intro x hx;obtain ⟨y,aK,rfl⟩:=aRs.1 hx;exact h y aK
theorem aG.cut {E by_ B c:Nat} {A:Option Addr} {l:List α} {w:World} (h:R.aG E by_ w B (ae A) A c l) (hp:R.v7) (k:Nat) (av:k≤l.length):R.aG E by_ w B (ae A) A c (l.take k):=by
 obtain ⟨Φ,ps,hf,hn,b1,dE⟩:=h;have az:=QE dE;have tK:ps.length=l.length:=dE.length;have γ:=aG.atc (E:=E) (by_:=by_) (c:=c) (A:=A) hp dE;have hlen:(l.take k).length=k:=by rw [aQP];omega
 have hm:=aRx by_ av;refine ⟨by rw [hlen];omega,ps.take k, ?_,hn, ?_,dE.H0 k⟩
 ·rw [atb λ y aK=>γ y (aSj aK),aRn]
 ·rw [hlen,aS5,O0 k az];obtain ⟨jS,KZ⟩:=b1;have hle:k * R.size≤l.length * R.size:=aRx _ av;refine ⟨by rw [aQP,jS];omega, ?_⟩;rcases KZ with ⟨KZ,aKi⟩ | ⟨g,cap,cur,hv,bc,fM,Ce,rh,hs,aD,bC⟩
  ·injection KZ with a_ bh cD
   subst a_ cD;have:k=0:=by omega
   subst this;exact .inl ⟨Z,Z⟩
  ·injection hv with a_ bh cD
   subst a_ cD;exact .inr ⟨g,c,cur,Z,bc,fM,by omega,rh,hs,by rw [← aD,aUg,aSd hle],bC⟩
end τ
section
variable {P:Program} {n:Nat} {E cR:List (Nat×Value)} {a:Act} {w w' w0 aP:World} {Q:Exit→Act→World→Prop} {ops:Array Oper} {v:Value}
variable {d:Option Nat} {ty:TypeId} {pos:String} {af:Array Edge} {g:Option (Nat×Bool)} {x y z:Operand} {t:TypeId} {rest:List Oper}
theorem ajN {A:Option Addr} {len cap e s:Nat} {k:IntKind} (lo:Nat) {i:Int} (aD:P.underlying t=some (.slice e)) (hs:eF P e s) (hx:ev E x=some (.slice A len cap)) (aK:ev E y=some (.int k i)) (ar:i=(lo:Int)) (γ:lo≤len):
  cN P E ⟨d, .slice t x (some y) none none,ty,pos,af,g⟩ w (.slice (e1 A cap lo s) (len - lo) (cap - lo)) w:=λ n a ha=>by
 subst ar;have la:P.underlying t=some (.slice (P.elem t)):=by simp [Program.elem,aD]
 have mC:P.elem t=e:=by simp [Program.elem,aD]
 have aw:=run_slice_l (P:=P) (w:=w) t A len cap la k (lo:Int) (by omega) (by omega);have aX:=aTl (P:=P) (w:=w) t (.slice A len cap) (some (.int k (lo:Int))) none none la;rw [mC,hs w] at aw;simp only [execOp,ha.ev hx,ha.ev aK,Option.map,aX,aw,aQY,aQR,aQ3,sliced,aRI,e1]
theorem awY {k:IntKind} {i j:Int} (aF:0≤i) (γ:0<j) (hw:k.wrap (i / j)=i / j):Op.intDiv .quo k i j=pure (.int k (i / j)):=by
 unfold Op.intDiv;have e:i.tdiv j=i / j:=aVa aF;rw [aQV (by omega)];simp only [e,hw]
theorem awZ {k:IntKind} {i j:Int} (aF:0≤i) (γ:0<j):Op.intDiv .rem k i j=pure (.int k (i % j)):=by
 unfold Op.intDiv;have e:i.tmod j=i % j:=Int.tmod_eq_emod_of_nonneg aF;rw [aQV (by omega)];simp only [e]
section
variable {k:IntKind} {i j:Int} {u:TypeId}
theorem abE (hx:ev E x=some (.int k i)) (aK:ev E y=some (.int k j)) (aF:0≤i) (γ:0<j) (hw:k.wrap (i / j)=i / j):cN P E ⟨d, .binOp .quo t x y u,ty,pos,af,g⟩ w (.int k (i / j)) w:=nW hx aK (binOp_quo t k i j) (by rw [awY aF γ hw];rfl)
theorem abF (hx:ev E x=some (.int k i)) (aK:ev E y=some (.int k j)) (aF:0≤i) (γ:0<j):cN P E ⟨d, .binOp .rem t x y u,ty,pos,af,g⟩ w (.int k (i % j)) w:=nW hx aK (binOp_rem t k i j) (by rw [awZ aF γ];rfl)
theorem ajr {i j:Int} (aF:0≤i) (γ:0<j) (ab:i≤9223372036854775807):IntKind.i64.wrap (i / j)=i / j:=by
 have a_:0≤i / j:=Int.ediv_nonneg aF (by omega);have bh:i / j≤i:=Int.ediv_le_self _ aF;exact bG ⟨by omega,by omega⟩
end
end
end
section
section
variable {α:Type} {p:α→Bool} {l L:List α} {d:α} {i j k:Nat}
theorem jj (h:k<l.length):l.getD k d∈l:=by rw [aQK,aQN h];exact aRO h
theorem mW (h:k<l.length):l.getD k d=l[k]:=by rw [aQK,aQN h];rfl
theorem P8 (h:∀ i,i<l.length→p (l.getD i d)=false):gb p l= -1:=EB λ j ay=>by rw [← mW (d:=d) ay];exact h j ay
theorem P9 (av:k<l.length) (γ:p (l.getD k d)=true) (h:∀ i,i<k→p (l.getD i d)=false):gb p l=(k:Int):=
 EC av (by rw [← mW (d:=d) av];exact γ) λ j ay=>by rw [← mW (d:=d) (by omega:j<l.length)];exact h j ay
theorem CM (h:k<l.length):l.take (k+1)=l.take k++ [l.getD k d]:=by rw [aRh h,mW h]
end
end
section
theorem NB:fh prog ax.rep 25 49 16:=fh.lF (z:=ax.zero) (k:=2) underlying25 ax.info rfl rfl (by decide) ax.iC
def gM (n:Int):Int:=if n<0 then -1 else if 0<n then 1 else 0
def cn (n:Int):Int:=if n<0 then -n else if 0<n then n else 0
theorem iP (n:Int):0≤cn n∧(-2000≤n∧n≤2000→cn n≤2000)∧(0≤n→cn n=n)∧(n<0→cn n= -n):=by unfold cn;split<;>(try split)<;>omega
theorem HW (n:Int): -1≤gM n∧gM n≤1:=by unfold gM;split<;>(try split)<;>omega
def a8 (a b:ax):Int:=max (cn (b.x - a.x)) (cn (b.y - a.y))
def vw (a b:ax):Int:=min (cn (b.x - a.x)) (cn (b.y - a.y))
def pH (a b:ax) (s:Int×ax):Int×ax :=
  (if decide (a8 a b≤s.1+2 * vw a b) then s.1+2 * vw a b - 2 * a8 a b else s.1+2 * vw a b,
   ⟨if !decide (cn (b.x - a.x)<cn (b.y - a.y)) || decide (a8 a b≤s.1+2 * vw a b) then s.2.x+gM (b.x - a.x) else s.2.x,
    if decide (cn (b.x - a.x)<cn (b.y - a.y)) || decide (a8 a b≤s.1+2 * vw a b) then s.2.y+gM (b.y - a.y) else s.2.y⟩)
def cM (a b:ax):Nat→Int×ax
  | 0=>(0,a)
  | k+1=>pH a b (cM a b k)
def sA (a b:ax) (k:Nat):List ax:=(List.range (k+1)).map λ i=>(cM a b i).2
def hb (a b:ax):List ax:=sA a b (a8 a b).toNat
theorem QI (a b:ax) (k:Nat):sA a b (k+1)=sA a b k++ [(cM a b (k+1)).2]:=by unfold sA;rw [aSo,aRc];rfl
theorem E2 (a b:ax) (k:Nat):(sA a b k).length=k+1:=by simp [sA]
theorem asD (a b:ax):0≤vw a b∧vw a b≤a8 a b:=by
  have γ:=iP (b.x - a.x);have ab:=iP (b.y - a.y);unfold vw a8;omega
theorem aid (a b:ax) (k:Nat): -a8 a b≤(cM a b k).1∧(cM a b k).1≤a8 a b:=by
  have hf:=asD a b;induction k with
  | zero=>show -a8 a b≤0∧0≤a8 a b;omega
  | succ k bt =>
    show -a8 a b≤(pH a b (cM a b k)).1∧(pH a b (cM a b k)).1≤a8 a b;unfold pH;simp only [aRg];split<;>omega
theorem aie (a b:ax) (k:Nat):a.x - k≤(cM a b k).2.x∧(cM a b k).2.x≤a.x+k∧a.y - k≤(cM a b k).2.y∧(cM a b k).2.y≤a.y+k:=by
  have γ:=HW (b.x - a.x);have ab:=HW (b.y - a.y);induction k with
  | zero=>show a.x - _≤a.x∧a.x≤a.x+_∧a.y - _≤a.y∧a.y≤a.y+_;omega
  | succ k bt =>
    show a.x - _≤(pH a b (cM a b k)).2.x∧(pH a b (cM a b k)).2.x≤a.x+_∧a.y - _≤(pH a b (cM a b k)).2.y∧(pH a b (cM a b k)).2.y≤a.y+_;unfold pH;simp only;split<;>split<;>omega
theorem Qw (c:ax) (w:World) (h: -1000≤c.x∧c.x≤1000∧ -1000≤c.y∧c.y≤1000):
    Calls prog 193 #[.agg #[.int .i64 c.x, .int .i64 c.y]] w (λ e w'=>e= .returned (.bool true)∧Ext w w'):=by
  refine cd (n:=23) func193 Z Z Z ?_;refine aj<|cB Z Z Z Z λ cO bJ ba eb aa=> ?_;have:=ba.size;have bk:=κ (Ext.bI w) ba;have eh:=aa.lt;refine va Z<|ai<|aj<|J (au iv Z)<|J (ao Z (aa.one bd Z))<|J (au iv Z)<|J (ao Z (aa.one bd Z))<|J (Xb Z (bG (by omega)))<|J (au iw Z)<|J (ao Z (aa.one bd Z))<|J (au iw Z)<|J (ao Z (aa.one bd Z))<|J (Xb Z (bG (by omega)))<|J (ayo Z Z Z Z)<|J (ble Z Z)<|vm Z<|aO Z Z Z Z (λ hc=>au iv Z) Z<|aO Z Z Z Z (λ hc=>ao (gt hc Z) (aa.one bd Z)) Z<|aO Z Z Z Z (λ hc=>au iw Z) Z<|aO Z Z Z Z (λ hc=>ao (gt hc Z) (aa.one bd Z)) Z<|aO Z Z Z Z (λ hc=>nR (gt hc Z) (gt hc Z)) Z<|aO Z Z Z Z (λ hc=>iI (gt hc Z) Z) Z<| ?_;refine J (di Z Z Z Z)<|va Z<|ai<|rt<|bb (.tmp Z .nil)<| ?_;exact ⟨L2 (by simp only [aQT,aRg];omega),bk⟩
theorem QZ (n:Int) (w:World) (h: -2000≤n∧n≤2000):
    Calls prog 194 #[.int .i64 n] w (λ e w'=>e= .returned (.tuple #[.int .i64 (gM n), .int .i64 (cn n)])∧Ext w w'):=by
  refine cd (n:=13) func194 Z Z Z ?_;refine aj<|va Z<|va Z<|ai<|aB<|bR<|aj<|vm Z<|J (blt Z Z)<|va Z<|ai<| ?_;refine ef Z (λ jQ=> ?_) (λ jQ=> ?_)
  · refine aj<|vm rfl<|J (Xb rfl (bG (by omega)))<|va rfl<|va rfl<|ai<|rt<|ej<|bN<|bb (.tmp rfl (.tmp rfl .nil))<| ?_
    exact ⟨by unfold gM cn;simp only [*,aSk,aRZ];try rfl,(Ext.bI w)⟩
  · refine aj<|vm rfl<|J (iu rfl rfl)<|va rfl<|ai<| ?_
    refine ef Z (λ at9=> ?_) (λ at9=> ?_)
    · refine aj<|vm rfl<|va rfl<|va rfl<|ai<|rt<|ej<|bN<|bb (.tmp rfl (.tmp rfl .nil))<| ?_
      exact ⟨by unfold gM cn;simp only [*,aSk,aRZ];try rfl,(Ext.bI w)⟩
    · refine e6<|bX<|aV<|aj<|va rfl<|va rfl<|ai<|rt<|bb (.tmp rfl (.tmp rfl .nil))<| ?_
      exact ⟨by unfold gM cn;simp only [*,aSk,aRZ];try rfl,(Ext.bI w)⟩
theorem abg (a b:ax) (w:World) (h: -1000≤a.x∧a.x≤1000∧ -1000≤a.y∧a.y≤1000) (ab: -1000≤b.x∧b.x≤1000∧ -1000≤b.y∧b.y≤1000):
    Calls prog 161 #[.agg #[.int .i64 a.x, .int .i64 a.y], .agg #[.int .i64 b.x, .int .i64 b.y]] w (λ e w'=>e= .returned (.tuple #[.int .i64 (a8 a b), .int .i64 (cn (b.x - a.x)+cn (b.y - a.y)), .int .i64 0])∧Ext w w'):=by
  refine cd (n:=43) func161 Z Z Z ?_;refine aj<|cB Z Z Z Z λ cO bJ ba eb aa=> ?_;have:=ba.size;have bk:=κ (Ext.bI w) ba;have eh:=aa.lt;refine cB Z Z Z Z λ eA cC bm hT ah=> ?_;have:=bm.size;have bO:=κ bk bm;have hI:=ah.lt;refine va Z<|va Z<|va Z<|ai<|aB<|aj<| ?_;have aa:=aa.later bm;refine J (ao Z (aa.all cf bS))<|ca OO Z Z ((Qw a _ (by omega)).mono ?_);rintro e hj ⟨rfl,eS⟩;refine ⟨_,Z, ?_⟩;have:=eS.size;have cV:=κ bO eS;refine J (eg Z)<|vm Z<|lf Z Z Z<| ?_;have ah:=ah.later eS;refine J (ao Z (ah.all cf bS))<|lf Z Z Z<|ca OO Z Z ((Qw b _ (by omega)).mono ?_);rintro e uk ⟨rfl,gY⟩;refine ⟨_,Z, ?_⟩;have:=gY.size;have hY:=κ cV gY;refine lf Z Z Z<|J (eg Z)<|J (sz Z Z)<|ai<|hC Z<|bs<|aj<|J (au iv Z)<| ?_;have ah:=ah.later gY;refine J (ao Z (ah.one bd Z))<|J (au iv Z)<| ?_;have aa:=aa.later (κ eS gY);refine J (ao Z (aa.one bd Z))<|J (lV Z Z (bG (by have:=iP (b.x - a.x);have:=iP (b.y - a.y);omega)))<|ca OQ Z Z ((QZ (b.x - a.x) _ (by omega)).mono ?_);rintro e xx ⟨rfl,iQ⟩;refine ⟨_,Z, ?_⟩;have:=iQ.size;have jC:=κ hY iQ;refine vm Z<|J (ex Z Z)<|J (ex Z Z)<|va Z<|va Z<|ai<|aj<|J (au iw Z)<| ?_;have ah:=ah.later iQ;refine J (ao Z (ah.one bd Z))<|J (au iw Z)<| ?_;have aa:=aa.later iQ;refine J (ao Z (aa.one bd Z))<|J (lV Z Z (bG (by have:=iP (b.x - a.x);have:=iP (b.y - a.y);omega)))<|ca OQ Z Z ((QZ (b.y - a.y) _ (by omega)).mono ?_);rintro e sH ⟨rfl,fX⟩;refine ⟨_,Z, ?_⟩;have:=fX.size;have jY:=κ jC fX;refine vm Z<|J (ex Z Z)<|J (ex Z Z)<|va Z<|va Z<|ai<|aj<|vm Z<|vm Z<|J (mx Z Z)<|vm Z<|vm Z<|J (bad Z Z (bG (by have:=iP (b.x - a.x);have:=iP (b.y - a.y);omega)))<|va Z<|va Z<|va Z<|ai<|rt<|bb (.tmp Z (.tmp Z (.tmp Z .nil)))<| ?_;exact ⟨Z,jY⟩
theorem apj (a b:ax) (w:World) (h: -1000≤a.x∧a.x≤1000∧ -1000≤a.y∧a.y≤1000) (ab: -1000≤b.x∧b.x≤1000∧ -1000≤b.y∧b.y≤1000):
    Calls prog 216 #[.agg #[.int .i64 a.x, .int .i64 a.y], .agg #[.int .i64 b.x, .int .i64 b.y]] w (λ e w'=>∃ A c,e= .returned (.tuple #[.slice A (hb a b).length c, .int .i64 0])∧ax.rep.aG 49 16 w' w.heap.size (τ.ae A) A c (hb a b)∧Ext w w'):=by
  refine cd (n:=93) func216 Z Z Z ?_;refine aj<|cB Z Z Z Z λ cO bJ ba eb aa=> ?_;have:=ba.size;have bk:=κ (Ext.bI w) ba;have eh:=aa.lt;refine cB Z Z Z Z λ eA cC bm hT ah=> ?_;have:=bm.size;have bO:=κ bk bm;have hI:=ah.lt;refine va Z<|va Z<|ai<|aB<|aj<| ?_;have aa:=aa.later bm;refine J (ao Z (aa.all cf bS))<|ca OO Z Z ((Qw a _ (by omega)).mono ?_);rintro e hj ⟨rfl,eS⟩;refine ⟨_,Z, ?_⟩;have:=eS.size;have cV:=κ bO eS;refine J (eg Z)<|vm Z<|lf Z Z Z<| ?_;have ah:=ah.later eS;refine J (ao Z (ah.all cf bS))<|lf Z Z Z<|ca OO Z Z ((Qw b _ (by omega)).mono ?_);rintro e uk ⟨rfl,gY⟩;refine ⟨_,Z, ?_⟩;have:=gY.size;have hY:=κ cV gY;refine lf Z Z Z<|J (eg Z)<|J (sz Z Z)<|ai<|hC Z<|bs<|aj<|J (au iv Z)<| ?_;have ah:=ah.later gY;refine J (ao Z (ah.one bd Z))<|J (au iv Z)<| ?_;have aa:=aa.later (κ eS gY);refine J (ao Z (aa.one bd Z))<|J (lV Z Z (bG (by omega)))<|ca OQ Z Z ((QZ (b.x - a.x) _ (by omega)).mono ?_);rintro e xx ⟨rfl,iQ⟩;refine ⟨_,Z, ?_⟩;have:=iQ.size;have jC:=κ hY iQ;refine vm Z<|J (ex Z Z)<|J (ex Z Z)<|va Z<|va Z<|ai<|aj<|J (au iw Z)<| ?_;have ah:=ah.later iQ;refine J (ao Z (ah.one bd Z))<|J (au iw Z)<| ?_;have aa:=aa.later iQ;refine J (ao Z (aa.one bd Z))<|J (lV Z Z (bG (by omega)))<|ca OQ Z Z ((QZ (b.y - a.y) _ (by omega)).mono ?_);rintro e sH ⟨rfl,fX⟩;refine ⟨_,Z, ?_⟩;have:=fX.size;have jY:=κ jC fX;refine vm Z<|J (ex Z Z)<|J (ex Z Z)<|va Z<|va Z<|ai<|aj<|vm Z<|vm Z<|va Z<|va Z<|ai<|aB<|aj<|vm Z<|vm Z<|J (iu Z Z)<|ai<| ?_;refine ef Z (λ BV=> ?_) (λ BV=> ?_)
  · have qk:=iP (b.x - a.x)
    have ox:=iP (b.y - a.y);have h2:a8 a b=cn (b.y - a.y):=by unfold a8;omega
    have KJ:vw a b=cn (b.x - a.x):=by unfold vw;omega
    have Ks:decide (cn (b.x - a.x)<cn (b.y - a.y))=true:=by exact aRi BV
    refine rg<|vm Z<|vm Z<|va Z<|va Z<|ai<|aj<| ?_;have aa:=aa.later fX;refine J (ao Z (aa.all cf bS))<|cX (e:= 49) (cs:= [.int .i64 a.x, .int .i64 a.y]) Z (λ _=>by kernel_rfl) Z λ AR S8 eC aLq ZK=> ?_;have:=eC.size;have kZ:=κ jY eC;have aNS:=ZK.lt;refine va Z<|ai<|aj<|va Z<|ai<|aB<|aj<|vm Z<|vm Z<|ai<|bR<| ?_;have aa:=aa.later eC;have ax6:∀ q∈τ.ae (some ⟨S8,0,none⟩),S8≤q:=λ q I=>aSr (aQJ.1 I).symm;refine fg (λ cm cl a6=>∃ k:Nat,∃ jF:Option Addr,∃ co:Nat,cl= [(2, .pointer (some ⟨bJ,0,none⟩)),(4, .slice none 0 0),(5, .int .i64 0),(6, .int .i64 (gM (b.x - a.x))),(7, .int .i64 (cn (b.x - a.x))),(8, .int .i64 (gM (b.y - a.y))),(9, .int .i64 (cn (b.y - a.y))),(10, .int .i64 (cn (b.y - a.y))),(11, .int .i64 (cn (b.x - a.x))),(12, .slice jF ((sA a b k).length) co),(13, .int .i64 ((cM a b k).1)),(50, .int .i64 (cn (b.y - a.y))),(51, .int .i64 (k:Int))]∧cm=(cn (b.y - a.y)).toNat - k∧Ext w a6∧aQ a6 bJ [.int .i64 ((cM a b k).2.x), .int .i64 ((cM a b k).2.y)] 49 (0,0)∧ax.rep.aG 49 16 a6 w.heap.size (τ.ae jF) jF co (sA a b k)∧((k:Int)≤cn (b.y - a.y))∧(∀ q∈τ.ae jF,q=bJ→False)) _ _ ⟨0,some ⟨S8,0,none⟩,1,Z,Z,kZ,aa,(aQ.vA (R:=ax.rep) (by_:=16) (B:=w.heap.size) (k:= [a]) ZK [[.int .i64 a.x, .int .i64 a.y]] Z ⟨⟨Z,bM.2 (by omega),bM.2 (by omega)⟩,trivial⟩ (by simp) (by simp) (by decide) (by omega)),(by have:=iP (b.y - a.y);have:=iP (b.x - a.x);omega),(λ q I Φ=>by (have:=ax6 q I;omega))⟩ (.cons Z (.cons Z (.cons Z (.cons Z (.cons Z (.cons Z (.cons Z (.cons Z (.cons Z (.cons Z (.cons (b2 Z (by first | omega | rfl | (simp<;>omega))) (.cons Z (.cons (b2 Z (by first | omega | rfl | (simp<;>omega))) .nil))))))))))))) ?_;rintro tV amu AT ⟨k,jF,co,rfl,rfl,kF,fO,e_,av,zR⟩;have:=kF.size;have aAC:=fO.lt;have aPl:=λ q I=>(e_.lt q I).2;have Φ:=aid a b k;have hp:=aie a b k;have fc:=HW (b.x - a.x);have gq:=HW (b.y - a.y);have qk:=iP (b.x - a.x);have ox:=iP (b.y - a.y);have tK:=E2 a b k;refine aj<|J (blt Z Z)<|ai<|aB<| ?_;refine ef Z (λ auc=> ?_) (λ auc=> ?_)
    · refine bs<|aB<|bR<|aj<|vm rfl<|vm rfl<|J (yc rfl rfl (bG (by omega)))<|J (bad rfl rfl (bG (by omega)))<|va rfl<|ai<|aj<|vm rfl<|vm rfl<|J (iI rfl rfl)<|va rfl<|ai<|aB<|aj<| ?_
      refine vm Z<|ai<| ?_;refine DY Z (λ Kd=> ?_) (λ Kd=> ?_)
      · rw [h2] at Φ
        have Ej:decide (cn (b.y - a.y)≤((cM a b k).1)+(2 * (cn (b.x - a.x))))=true:=by exact aRi Kd
        refine rg<|vm Z<|vm Z<|J (yc Z Z (bG (by omega)))<|J (lV Z Z (bG (by omega)))<|va Z<|ai<|aB<|aj<|vm Z<|vm Z<|J (iI Z Z)<|vm Z<|aO Z Z Z Z (λ hc=>aH Z) Z<|J (ez Z Z Z Z)<|ai<| ?_;have Vg:((decide (cn (b.y - a.y)≤cn (b.x - a.x))) || (decide (cn (b.y - a.y)≤((cM a b k).1)+(2 * (cn (b.x - a.x))))))=true:=by simp only [aRv,aRg];omega
        refine fx (by rw [← Vg];rfl)<|rg<|J (au iv Z)<|J (ao Z (fO.one bd Z))<|vm Z<|J (bad Z Z (bG (by omega)))<|J (au iv Z)<|st (new:= [.int .i64 (((cM a b k).2.x)+(gM (b.x - a.x))), .int .i64 ((cM a b k).2.y)]) Z Z fO Z dr Z Z Z λ Ry j' fO=> ?_;have:=j'.size;have uE:=Ext.mod kF j' bw;refine ai<|aB<|aj<|vm Z<|vm Z<|J (iu Z Z)<|vm Z<|aO Z Z Z Z (λ hc=>aH Z) Z<|J (ez Z Z Z Z)<|ai<| ?_;have Af:((decide (cn (b.x - a.x)<cn (b.y - a.y))) || (decide (cn (b.y - a.y)≤((cM a b k).1)+(2 * (cn (b.x - a.x))))))=true:=by simp only [aRv,aRg];omega
        refine fx (by rw [← Af];rfl)<|rg<|J (au iw Z)<|J (ao Z (fO.one bd Z))<|vm Z<|J (bad Z Z (bG (by omega)))<|J (au iw Z)<|st (new:= [.int .i64 (((cM a b k).2.x)+(gM (b.x - a.x))), .int .i64 (((cM a b k).2.y)+(gM (b.y - a.y)))]) Z Z fO Z dr Z Z Z λ RA yM fO=> ?_;have:=yM.size;have A6:=Ext.mod uE yM bw;refine ai<|rg<|vm Z<|J (ao Z (fO.all cf bS))<|cX (e:= 49) (cs:= [.int .i64 (((cM a b k).2.x)+(gM (b.x - a.x))), .int .i64 (((cM a b k).2.y)+(gM (b.y - a.y)))]) Z (λ _=>by kernel_rfl) Z λ aDS aHm vO aLC ZQ=> ?_;have:=vO.size;have RV:=κ A6 vO;have aAH:=ZQ.lt;have e_:=e_.mod j' (λ q I h=>by have Φ:=aQJ.1 h;exfalso;(exact zR q I Φ));have e_:=e_.mod yM (λ q I h=>by have Φ:=aQJ.1 h;exfalso;(exact zR q I Φ));have e_:=e_.later vO;refine ap NB τ.dC e_ (aQ.gJ (R:=ax.rep) (by_:=16) (q:=(⟨((cM a b k).2.x)+(gM (b.x - a.x)),((cM a b k).2.y)+(gM (b.y - a.y))⟩:ax)) ZQ ⟨Z,⟨bM.2 (by (try dsimp only);omega),bM.2 (by (try dsimp only);omega)⟩⟩ (by decide)) Z Z (by simp only [aQQ,aQX];omega) (by simp only [aQQ,aQX];omega) RV.size Z λ Ia amb ao4 nd aaQ ati aMV=> ?_;have:=nd.size;have rS:=Ext.mod RV nd (λ q I=>(e_.lt q I).1);have Rm:=λ q I=>(aaQ.lt q I).2;have:=nd.size;refine va Z<|nl<|bX<|aV<|rg<|J (bad Z Z (bG (by omega)))<|vm Z<|nl<| ?_;have a_:cM a b (k+1)=((((cM a b k).1)+(2 * (cn (b.x - a.x)))) - (2 * (cn (b.y - a.y))),⟨((cM a b k).2.x)+(gM (b.x - a.x)),((cM a b k).2.y)+(gM (b.y - a.y))⟩):=by
          show pH a b (cM a b k)=_;unfold pH;simp only [h2,KJ,Ks,Ej,aSk,aRZ,aUO,aUN,aUs,aTQ,aRr,aTK,aTw,aSP,aUm]
        have bh:=QI a b k;rw [a_] at bh;have cD:(sA a b (k+1)).length=k+2:=E2 a b (k+1);have fO:=fO.later vO;have fO:=fO.mod nd (λ I=>zR _ I rfl);exact c' _ _ ⟨k+1,amb,ao4,Z,Z,rS,(by rw [a_];exact fO),(by rw [bh];exact aaQ),by omega,(λ q I Φ=>by (exact aQ2 (ati q I) (λ ahC=>by (exact zR q ahC Φ)) (λ ahC=>by omega)))⟩ (by omega) (.cons Z (.cons Z (.cons Z (.cons Z (.cons Z (.cons Z (.cons Z (.cons Z (.cons Z (.cons (by rw [bh];rfl) (.cons (b2 Z (by rw [a_])) (.cons Z (.cons (b2 Z (by first | omega | rfl | (simp<;>omega))) .nil)))))))))))))
      · rw [h2] at Φ
        have Ej:decide (cn (b.y - a.y)≤((cM a b k).1)+(2 * (cn (b.x - a.x))))=false:=by exact aRm Kd
        refine bs<|aB<|aj<|vm Z<|vm Z<|J (iI Z Z)<|vm Z<|aO Z Z Z Z (λ hc=>aH Z) Z<|J (ez Z Z Z Z)<|ai<| ?_;have aui:((decide (cn (b.y - a.y)≤cn (b.x - a.x))) || (decide (cn (b.y - a.y)≤((cM a b k).1)+(2 * (cn (b.x - a.x))))))=false:=by simp only [aRy,aRu];omega
        refine hC (by rw [← aui];rfl)<|bs<|aB<|aj<|vm Z<|vm Z<|J (iu Z Z)<|vm Z<|aO Z Z Z Z (λ hc=>aH Z) Z<|J (ez Z Z Z Z)<|ai<| ?_;have Vm:((decide (cn (b.x - a.x)<cn (b.y - a.y))) || (decide (cn (b.y - a.y)≤((cM a b k).1)+(2 * (cn (b.x - a.x))))))=true:=by simp only [aRv,aRg];omega
        refine fx (by rw [← Vm];rfl)<|rg<|J (au iw Z)<|J (ao Z (fO.one bd Z))<|vm Z<|J (bad Z Z (bG (by omega)))<|J (au iw Z)<|st (new:= [.int .i64 ((cM a b k).2.x), .int .i64 (((cM a b k).2.y)+(gM (b.y - a.y)))]) Z Z fO Z dr Z Z Z λ Fp yO fO=> ?_;have:=yO.size;have xN:=Ext.mod kF yO bw;refine ai<|rg<|vm Z<|J (ao Z (fO.all cf bS))<|cX (e:= 49) (cs:= [.int .i64 ((cM a b k).2.x), .int .i64 (((cM a b k).2.y)+(gM (b.y - a.y)))]) Z (λ _=>by kernel_rfl) Z λ YD aHw hL aLO ZU=> ?_;have:=hL.size;have uF:=κ xN hL;have aOi:=ZU.lt;have e_:=e_.mod yO (λ q I h=>by have Φ:=aQJ.1 h;exfalso;(exact zR q I Φ));have e_:=e_.later hL;refine ap NB τ.dC e_ (aQ.gJ (R:=ax.rep) (by_:=16) (q:=(⟨(cM a b k).2.x,((cM a b k).2.y)+(gM (b.y - a.y))⟩:ax)) ZU ⟨Z,⟨bM.2 (by (try dsimp only);omega),bM.2 (by (try dsimp only);omega)⟩⟩ (by decide)) Z Z (by simp only [aQQ,aQX];omega) (by simp only [aQQ,aQX];omega) uF.size Z λ RF amd ao7 sw aaT atk aMZ=> ?_;have:=sw.size;have zd:=Ext.mod uF sw (λ q I=>(e_.lt q I).1);have aPy:=λ q I=>(aaT.lt q I).2;have:=sw.size;refine va Z<|nl<|bX<|aV<|rg<|J (bad Z Z (bG (by omega)))<|vm Z<|nl<| ?_;have a_:cM a b (k+1)=(((cM a b k).1)+(2 * (cn (b.x - a.x))),⟨(cM a b k).2.x,((cM a b k).2.y)+(gM (b.y - a.y))⟩):=by
          show pH a b (cM a b k)=_;unfold pH;simp only [h2,KJ,Ks,Ej,aSk,aRZ,aUO,aUN,aUs,aTQ,aRr,aTK,aTw,aSP,aUm]
        have bh:=QI a b k;rw [a_] at bh;have cD:(sA a b (k+1)).length=k+2:=E2 a b (k+1);have fO:=fO.later hL;have fO:=fO.mod sw (λ I=>zR _ I rfl);exact c' _ _ ⟨k+1,amd,ao7,Z,Z,zd,(by rw [a_];exact fO),(by rw [bh];exact aaT),by omega,(λ q I Φ=>by (exact aQ2 (atk q I) (λ ahH=>by (exact zR q ahH Φ)) (λ ahH=>by omega)))⟩ (by omega) (.cons Z (.cons Z (.cons Z (.cons Z (.cons Z (.cons Z (.cons Z (.cons Z (.cons Z (.cons (by rw [bh];rfl) (.cons (b2 Z (by rw [a_])) (.cons Z (.cons (b2 Z (by first | omega | rfl | (simp<;>omega))) .nil)))))))))))))
    · refine dN<|dL<|ed<|dK<|aV<|aj<|vm rfl<|va rfl<|va rfl<|ai<|rt<|bb (.tmp rfl (.tmp rfl .nil))<| ?_
      have pC:k=(a8 a b).toNat:=by omega
      subst pC;exact ⟨jF,co,Z,e_,kF⟩
  · have qk:=iP (b.x - a.x)
    have ox:=iP (b.y - a.y);have h2:a8 a b=cn (b.x - a.x):=by unfold a8;omega
    have KJ:vw a b=cn (b.y - a.y):=by unfold vw;omega
    have Ks:decide (cn (b.x - a.x)<cn (b.y - a.y))=false:=by exact aRm BV
    refine bs<|aj<| ?_;have aa:=aa.later fX;refine J (ao Z (aa.all cf bS))<|cX (e:= 49) (cs:= [.int .i64 a.x, .int .i64 a.y]) Z (λ _=>by kernel_rfl) Z λ YJ Ta lO aKW Zt=> ?_;have:=lO.size;have FP:=κ jY lO;have aAn:=Zt.lt;refine va Z<|ai<|aj<|va Z<|ai<|aB<|aj<|vm Z<|vm Z<|ai<|bR<| ?_;have aa:=aa.later lO;have Qh:∀ q∈τ.ae (some ⟨Ta,0,none⟩),Ta≤q:=λ q I=>aSr (aQJ.1 I).symm;refine fg (λ cm cl a6=>∃ k:Nat,∃ jF:Option Addr,∃ co:Nat,cl= [(2, .pointer (some ⟨bJ,0,none⟩)),(4, .slice none 0 0),(5, .int .i64 0),(6, .int .i64 (gM (b.x - a.x))),(7, .int .i64 (cn (b.x - a.x))),(8, .int .i64 (gM (b.y - a.y))),(9, .int .i64 (cn (b.y - a.y))),(10, .int .i64 (cn (b.x - a.x))),(11, .int .i64 (cn (b.y - a.y))),(12, .slice jF ((sA a b k).length) co),(13, .int .i64 ((cM a b k).1)),(50, .int .i64 (cn (b.x - a.x))),(51, .int .i64 (k:Int))]∧cm=(cn (b.x - a.x)).toNat - k∧Ext w a6∧aQ a6 bJ [.int .i64 ((cM a b k).2.x), .int .i64 ((cM a b k).2.y)] 49 (0,0)∧ax.rep.aG 49 16 a6 w.heap.size (τ.ae jF) jF co (sA a b k)∧((k:Int)≤cn (b.x - a.x))∧(∀ q∈τ.ae jF,q=bJ→False)) _ _ ⟨0,some ⟨Ta,0,none⟩,1,Z,Z,FP,aa,(aQ.vA (R:=ax.rep) (by_:=16) (B:=w.heap.size) (k:= [a]) Zt [[.int .i64 a.x, .int .i64 a.y]] Z ⟨⟨Z,bM.2 (by omega),bM.2 (by omega)⟩,trivial⟩ (by simp) (by simp) (by decide) (by omega)),(by have:=iP (b.y - a.y);have:=iP (b.x - a.x);omega),(λ q I Φ=>by (have:=Qh q I;omega))⟩ (.cons Z (.cons Z (.cons Z (.cons Z (.cons Z (.cons Z (.cons Z (.cons Z (.cons Z (.cons Z (.cons (b2 Z (by first | omega | rfl | (simp<;>omega))) (.cons Z (.cons (b2 Z (by first | omega | rfl | (simp<;>omega))) .nil))))))))))))) ?_;rintro aMb aFN Yu ⟨k,jF,co,rfl,rfl,De,fO,e_,av,D0⟩;have:=De.size;have aAo:=fO.lt;have aCN:=λ q I=>(e_.lt q I).2;have Φ:=aid a b k;have hp:=aie a b k;have fc:=HW (b.x - a.x);have gq:=HW (b.y - a.y);have qk:=iP (b.x - a.x);have ox:=iP (b.y - a.y);have tK:=E2 a b k;refine aj<|J (blt Z Z)<|ai<|aB<| ?_;refine ef Z (λ atW=> ?_) (λ atW=> ?_)
    · refine bs<|aB<|bR<|aj<|vm rfl<|vm rfl<|J (yc rfl rfl (bG (by omega)))<|J (bad rfl rfl (bG (by omega)))<|va rfl<|ai<|aj<|vm rfl<|vm rfl<|J (iI rfl rfl)<|va rfl<|ai<|aB<|aj<| ?_
      refine vm Z<|ai<| ?_;refine DY Z (λ Va=> ?_) (λ Va=> ?_)
      · rw [h2] at Φ
        have Ej:decide (cn (b.x - a.x)≤((cM a b k).1)+(2 * (cn (b.y - a.y))))=true:=by exact aRi Va
        refine rg<|vm Z<|vm Z<|J (yc Z Z (bG (by omega)))<|J (lV Z Z (bG (by omega)))<|va Z<|ai<|aB<|aj<|vm Z<|vm Z<|J (iI Z Z)<|vm Z<|aO Z Z Z Z (λ hc=>aH Z) Z<|J (ez Z Z Z Z)<|ai<| ?_;have atX:((decide (cn (b.y - a.y)≤cn (b.x - a.x))) || (decide (cn (b.x - a.x)≤((cM a b k).1)+(2 * (cn (b.y - a.y))))))=true:=by simp only [aRv,aRg];omega
        refine fx (by rw [← atX];rfl)<|rg<|J (au iv Z)<|J (ao Z (fO.one bd Z))<|vm Z<|J (bad Z Z (bG (by omega)))<|J (au iv Z)<|st (new:= [.int .i64 (((cM a b k).2.x)+(gM (b.x - a.x))), .int .i64 ((cM a b k).2.y)]) Z Z fO Z dr Z Z Z λ Yv nP fO=> ?_;have:=nP.size;have FE:=Ext.mod De nP bw;refine ai<|aB<|aj<|vm Z<|vm Z<|J (iu Z Z)<|vm Z<|aO Z Z Z Z (λ hc=>aH Z) Z<|J (ez Z Z Z Z)<|ai<| ?_;have atY:((decide (cn (b.x - a.x)<cn (b.y - a.y))) || (decide (cn (b.x - a.x)≤((cM a b k).1)+(2 * (cn (b.y - a.y))))))=true:=by simp only [aRv,aRg];omega
        refine fx (by rw [← atY];rfl)<|rg<|J (au iw Z)<|J (ao Z (fO.one bd Z))<|vm Z<|J (bad Z Z (bG (by omega)))<|J (au iw Z)<|st (new:= [.int .i64 (((cM a b k).2.x)+(gM (b.x - a.x))), .int .i64 (((cM a b k).2.y)+(gM (b.y - a.y)))]) Z Z fO Z dr Z Z Z λ aPM WV fO=> ?_;have:=WV.size;have aEF:=Ext.mod FE WV bw;refine ai<|rg<|vm Z<|J (ao Z (fO.all cf bS))<|cX (e:= 49) (cs:= [.int .i64 (((cM a b k).2.x)+(gM (b.x - a.x))), .int .i64 (((cM a b k).2.y)+(gM (b.y - a.y)))]) Z (λ _=>by kernel_rfl) Z λ ak3 aGX RQ aK5 Zy=> ?_;have:=RQ.size;have It:=κ aEF RQ;have aNv:=Zy.lt;have e_:=e_.mod nP (λ q I h=>by have Φ:=aQJ.1 h;exfalso;(exact D0 q I Φ));have e_:=e_.mod WV (λ q I h=>by have Φ:=aQJ.1 h;exfalso;(exact D0 q I Φ));have e_:=e_.later RQ;refine ap NB τ.dC e_ (aQ.gJ (R:=ax.rep) (by_:=16) (q:=(⟨((cM a b k).2.x)+(gM (b.x - a.x)),((cM a b k).2.y)+(gM (b.y - a.y))⟩:ax)) Zy ⟨Z,⟨bM.2 (by (try dsimp only);omega),bM.2 (by (try dsimp only);omega)⟩⟩ (by decide)) Z Z (by simp only [aQQ,aQX];omega) (by simp only [aQQ,aQX];omega) It.size Z λ ak4 al1 aoV yH aaG atf aMA=> ?_;have:=yH.size;have ML:=Ext.mod It yH (λ q I=>(e_.lt q I).1);have akH:=λ q I=>(aaG.lt q I).2;have:=yH.size;refine va Z<|nl<|bX<|aV<|rg<|J (bad Z Z (bG (by omega)))<|vm Z<|nl<| ?_;have a_:cM a b (k+1)=((((cM a b k).1)+(2 * (cn (b.y - a.y)))) - (2 * (cn (b.x - a.x))),⟨((cM a b k).2.x)+(gM (b.x - a.x)),((cM a b k).2.y)+(gM (b.y - a.y))⟩):=by
          show pH a b (cM a b k)=_;unfold pH;simp only [h2,KJ,Ks,Ej,aSk,aRZ,aUO,aUN,aUs,aTQ,aRr,aTK,aTw,aSP,aUm]
        have bh:=QI a b k;rw [a_] at bh;have cD:(sA a b (k+1)).length=k+2:=E2 a b (k+1);have fO:=fO.later RQ;have fO:=fO.mod yH (λ I=>D0 _ I rfl);exact c' _ _ ⟨k+1,al1,aoV,Z,Z,ML,(by rw [a_];exact fO),(by rw [bh];exact aaG),by omega,(λ q I Φ=>by (exact aQ2 (atf q I) (λ agI=>by (exact D0 q agI Φ)) (λ agI=>by omega)))⟩ (by omega) (.cons Z (.cons Z (.cons Z (.cons Z (.cons Z (.cons Z (.cons Z (.cons Z (.cons Z (.cons (by rw [bh];rfl) (.cons (b2 Z (by rw [a_])) (.cons Z (.cons (b2 Z (by first | omega | rfl | (simp<;>omega))) .nil)))))))))))))
      · rw [h2] at Φ
        have Ej:decide (cn (b.x - a.x)≤((cM a b k).1)+(2 * (cn (b.y - a.y))))=false:=by exact aRm Va
        refine bs<|aB<|aj<|vm Z<|vm Z<|J (iI Z Z)<|vm Z<|aO Z Z Z Z (λ hc=>aH Z) Z<|J (ez Z Z Z Z)<|ai<| ?_;have at4:((decide (cn (b.y - a.y)≤cn (b.x - a.x))) || (decide (cn (b.x - a.x)≤((cM a b k).1)+(2 * (cn (b.y - a.y))))))=true:=by simp only [aRv,aRg];omega
        refine fx (by rw [← at4];rfl)<|rg<|J (au iv Z)<|J (ao Z (fO.one bd Z))<|vm Z<|J (bad Z Z (bG (by omega)))<|J (au iv Z)<|st (new:= [.int .i64 (((cM a b k).2.x)+(gM (b.x - a.x))), .int .i64 ((cM a b k).2.y)]) Z Z fO Z dr Z Z Z λ ak8 yI fO=> ?_;have:=yI.size;have MO:=Ext.mod De yI bw;refine ai<|aB<|aj<|vm Z<|vm Z<|J (iu Z Z)<|vm Z<|aO Z Z Z Z (λ hc=>aH Z) Z<|J (ez Z Z Z Z)<|ai<| ?_;have at5:((decide (cn (b.x - a.x)<cn (b.y - a.y))) || (decide (cn (b.x - a.x)≤((cM a b k).1)+(2 * (cn (b.y - a.y))))))=false:=by simp only [aRy,aRu];omega
        refine hC (by rw [← at5];rfl)<|bs<|rg<|vm Z<|J (ao Z (fO.all cf bS))<|cX (e:= 49) (cs:= [.int .i64 (((cM a b k).2.x)+(gM (b.x - a.x))), .int .i64 ((cM a b k).2.y)]) Z (λ _=>by kernel_rfl) Z λ ak9 aG4 vM aLd ZD=> ?_;have:=vM.size;have Iu:=κ MO vM;have aNE:=ZD.lt;have e_:=e_.mod yI (λ q I h=>by have Φ:=aQJ.1 h;exfalso;(exact D0 q I Φ));have e_:=e_.later vM;refine ap NB τ.dC e_ (aQ.gJ (R:=ax.rep) (by_:=16) (q:=(⟨((cM a b k).2.x)+(gM (b.x - a.x)),(cM a b k).2.y⟩:ax)) ZD ⟨Z,⟨bM.2 (by (try dsimp only);omega),bM.2 (by (try dsimp only);omega)⟩⟩ (by decide)) Z Z (by simp only [aQQ,aQX];omega) (by simp only [aQQ,aQX];omega) Iu.size Z λ aPZ al3 aoX Qp aaI atg aMF=> ?_;have:=Qp.size;have aER:=Ext.mod Iu Qp (λ q I=>(e_.lt q I).1);have aPa:=λ q I=>(aaI.lt q I).2;have:=Qp.size;refine va Z<|nl<|bX<|aV<|rg<|J (bad Z Z (bG (by omega)))<|vm Z<|nl<| ?_;have a_:cM a b (k+1)=(((cM a b k).1)+(2 * (cn (b.y - a.y))),⟨((cM a b k).2.x)+(gM (b.x - a.x)),(cM a b k).2.y⟩):=by
          show pH a b (cM a b k)=_;unfold pH;simp only [h2,KJ,Ks,Ej,aSk,aRZ,aUO,aUN,aUs,aTQ,aRr,aTK,aTw,aSP,aUm]
        have bh:=QI a b k;rw [a_] at bh;have cD:(sA a b (k+1)).length=k+2:=E2 a b (k+1);have fO:=fO.later vM;have fO:=fO.mod Qp (λ I=>D0 _ I rfl);exact c' _ _ ⟨k+1,al3,aoX,Z,Z,aER,(by rw [a_];exact fO),(by rw [bh];exact aaI),by omega,(λ q I Φ=>by (exact aQ2 (atg q I) (λ agO=>by (exact D0 q agO Φ)) (λ agO=>by omega)))⟩ (by omega) (.cons Z (.cons Z (.cons Z (.cons Z (.cons Z (.cons Z (.cons Z (.cons Z (.cons Z (.cons (by rw [bh];rfl) (.cons (b2 Z (by rw [a_])) (.cons Z (.cons (b2 Z (by first | omega | rfl | (simp<;>omega))) .nil)))))))))))))
    · refine dN<|dL<|ed<|dK<|aV<|aj<|vm rfl<|va rfl<|va rfl<|ai<|rt<|bb (.tmp rfl (.tmp rfl .nil))<| ?_
      have pC:k=(a8 a b).toNat:=by omega
      subst pC;exact ⟨jF,co,Z,e_,De⟩
end
section
def tq (p:Int):Int:=if p=0∨p=3 then 2 else if p=2 then 3 else 0
def uY (p:Int):Int:=if p=0∨p=3 then 0 else if p=2 then 0 else if p=1 then 9 else 1
def dU (c:ax):List ax:= [⟨c.x,c.y - 1⟩,⟨c.x - 1,c.y⟩,⟨c.x+1,c.y⟩,⟨c.x,c.y+1⟩]
namespace aE
section
variable {f:aE} {c d x y b:ax} {l a8:List Int} {v:Int}
def gu (f:aE) (c:ax):Int:=if f.place c=2 then 3 else 2
def cP (f:aE) (c:ax):List ax:=(dU c).filter f.ground
def at_ (f:aE) (c:ax):Nat:=(c.y * f.wide+c.x).toNat
def aA (f:aE) (a8:List Int) (c:ax):Int:=if f.fe c then a8.getD (f.at_ c) (-1) else -1
def kr (b c:ax):Int:=2 * (cn (b.x - c.x)+cn (b.y - c.y))
theorem BS (h:f.ground c=true):f.place c≠1:=by unfold ground at h;rw [aQT] at h;simpa using h.2
theorem aem (h:f.fe c=true) (ab:f.place c≠1):f.ground c=true:=by unfold ground;rw [h];simpa using ab
theorem pG:2≤f.gu c∧f.gu c≤3:=by unfold gu;split<;>omega
theorem LL:y∈f.cP x↔y∈dU x∧f.ground y=true:=by unfold cP;rw [aS8]
theorem W7:y∈dU x↔(y=⟨x.x,x.y - 1⟩∨y=⟨x.x - 1,x.y⟩∨y=⟨x.x+1,x.y⟩∨y=⟨x.x,x.y+1⟩):=by unfold dU;simp
theorem X2 (h:y∈dU x):x∈dU y:=by
 rw [W7] at h ⊢;obtain ⟨a,b⟩:=x;rcases h with rfl | rfl | rfl | rfl
 ·right;right;right;simp
 ·right;right;left;simp
 ·right;left;simp
 ·left;simp
theorem aBE (h:y∈dU x):y≠x:=by
 rw [W7] at h;obtain ⟨a,b⟩:=x;rcases h with rfl | rfl | rfl | rfl<;>simp<;>omega
theorem Uo (b:ax) (h:y∈dU x):kr b x≤2+kr b y:=by
 rw [W7] at h;obtain ⟨e2,ft⟩:=x;have e:∀ n:Int,cn n≤1+cn (n+1)∧cn n≤1+cn (n - 1):=λ n=>by
  have γ:=iP n;have ab:=iP (n+1);have aw:=iP (n - 1);rcases (show n<0∨0≤n by omega) with hn | hn
  ·have:=γ.2.2.2 hn;rcases (show n+1<0∨0≤n+1 by omega) with hm | hm
   ·have:=ab.2.2.2 hm;have:=aw.2.2.2 (by omega);omega
   ·have:=ab.2.2.1 hm;have:=aw.2.2.2 (by omega);omega
  ·have:=γ.2.2.1 hn;have:=ab.2.2.1 (by omega);rcases (show n - 1<0∨0≤n - 1 by omega) with hm | hm
   ·have:=aw.2.2.2 hm;omega
   ·have:=aw.2.2.1 hm;omega
 unfold kr;rcases h with rfl | rfl | rfl | rfl<;>dsimp only
 ·have:=(e (b.y - ft)).1;rw [show b.y - (ft - 1)=b.y - ft+1 by omega];omega
 ·have:=(e (b.x - e2)).1;rw [show b.x - (e2 - 1)=b.x - e2+1 by omega];omega
 ·have:=(e (b.x - e2)).2;rw [show b.x - (e2+1)=b.x - e2 - 1 by omega];omega
 ·have:=(e (b.y - ft)).2;rw [show b.y - (ft+1)=b.y - ft - 1 by omega];omega
theorem adN (b c:ax):0≤kr b c:=by have:=iP (b.x - c.x);have:=iP (b.y - c.y);unfold kr;omega
theorem Un (b:ax):kr b b=0:=by unfold kr;rw [aUK,aUK];rfl
theorem QD (f:aE) (b:ax):p6.iH f.cP f.gu (kr b):=⟨λ x y _=>by have:=f.pG (c:=y);omega,adN b,λ x y aK=>by
 have:=Uo b (LL.1 aK).1;have:=f.pG (c:=y);omega⟩
theorem Xk (f:aE):p6.iH f.cP f.gu (λ _=>0):=⟨λ x y _=>by have:=f.pG (c:=y);omega,λ _=>aSe 0,λ x y aK=>by have:=f.pG (c:=y);omega⟩
theorem abj (hf:f.bn=0) (hc:f.fe c=true) (hd:f.fe d=true) (h:f.at_ c=f.at_ d):c=d:=by
 obtain ⟨a0,cj,a2,a3,a4,a5⟩:=idx hf hc;obtain ⟨Jn,ko,eZ,gm,zM,Jo⟩:=idx hf hd;unfold at_ at h;have e:c.y * f.wide+c.x=d.y * f.wide+d.x:=by omega
 have a_:(c.y * f.wide+c.x) % f.wide=c.x:=by rw [aUM,aTz,aUL a2 a3]
 have bh:(d.y * f.wide+d.x) % f.wide=d.x:=by rw [aUM,aTz,aUL eZ gm]
 have ex:c.x=d.x:=by rw [← a_,← bh,e]
 have OX:c.y * f.wide=d.y * f.wide:=by omega
 have OX:c.y=d.y:=Int.eq_of_mul_eq_mul_right (by omega) OX;cases c;cases d;simp at ex OX;rw [ex,OX]
theorem ya (hf:f.bn=0) (hc:f.fe c=true):f.at_ c<f.aW.length∧((f.at_ c:Nat):Int)=c.y * f.wide+c.x:=by
 obtain ⟨a0,cj,_⟩:=idx hf hc;unfold at_;omega
theorem GG (hc:f.fe c=true):f.aA a8 c=a8.getD (f.at_ c) (-1):=by unfold aA;rw [aQZ hc]
theorem UC (hc:f.fe c=false):f.aA a8 c= -1:=by unfold aA;rw [aQV (by rw [hc];decide)]
theorem O5 (hf:f.bn=0) (az:a8.length=f.aW.length) (hc:f.fe c=true):f.aA (a8.set (f.at_ c) v) c=v:=by
 rw [GG hc,aQK,aQ9 (by rw [az];exact (ya hf hc).1)];rfl
theorem O6 (hf:f.bn=0) (hc:f.fe c=true) (fb:d≠c):f.aA (a8.set (f.at_ c) v) d=f.aA a8 d:=by
 cases hd:f.fe d with
 | false=>rw [UC hd,UC hd]
 | true=>rw [GG hd,GG hd,aQK,aQK,aRf (λ e=>fb (abj hf hd hc e.symm))]
end
end aE
def und:List Int→Nat
 | []=>0
 | x::r=>(if x<0 then 1 else 0)+und r
theorem akQ:∀ l:List Int,und l≤l.length
 | []=>aQW _
 | x::r=>by have:=akQ r;rw [und,aQQ];split<;>omega
theorem akR {v:Int} (hv:0≤v):∀ (l:List Int) (i:Nat),i<l.length→l.getD i (-1)<0→und (l.set i v)+1=und l
 | [],i,h,_=>by simp at h
 | x::r,0,_,h=>by
  have h:x<0:=h;rw [aSL,und,und,aQV (by omega),aQZ h];omega
 | x::r,i+1,h,ab=>by
  have:=akR hv r i (by simpa using h) (by simpa using ab);rw [aSM,und,und];omega
theorem Yo {n:Nat}:und (List.replicate n (-1))=n:=by
 induction n with
 | zero=>rfl
 | succ n bt=>rw [aVK,und,bt];simp;omega
structure ir {β:Type} [Inhabited β] (gp:β→ax) (au iM:β→Int) (f:aE) (h:ax→Int) (src:ax→Prop) (a8:List Int) (l:List β) (dc:ax) (rest:List ax):Prop where
 len:a8.length=f.aW.length
 inv:p6.Inv f.cP f.gu h src (f.aA a8) (l.map λ n=>(gp n,au n)) dc rest
 hp:ct.Heap iM l.length l
 all:∀ n∈l,iM n=au n+h (gp n)∧f.ground (gp n)=true
 cG:∀ c,f.aA a8 c+3 * (und a8:Int)≤3 * (f.aW.length:Int)
 gr:∀ c,0≤f.aA a8 c→f.ground c=true
section
variable {β:Type} [Inhabited β] {gp:β→ax} {au iM:β→Int} {f:aE} {h:ax→Int} {src:ax→Prop} {a8:List Int} {l:List β} {dc y:ax} {rest:List ax} {n:β} {j:Nat}
theorem ir.adO (s:ir gp au iM f h src a8 l dc rest) (o:p6.iH f.cP f.gu h) (hn:n∈l):0≤au n∧au n+3 * (und a8:Int)≤3 * (f.aW.length:Int)+3:=by
 have hm:(gp n,au n)∈l.map λ n=>(gp n,au n):=aRs.2 ⟨n,hn,rfl⟩;have hr:=s.inv.ajx hm;refine ⟨hr.qq o, ?_⟩;have hu:=akQ a8;have:=s.len;rcases s.inv.q _ hm with ⟨_,ab⟩ | ⟨p,γ,ab,aw⟩
 ·have ab:au n=0:=ab;omega
 ·have aw:au n=f.aA a8 p+f.gu (gp n):=aw;have:=s.cG p;have:=f.pG (c:=gp n);omega
theorem ir.ai3 (aF:0<l.length):(l.map λ n=>(gp n,au n)).Perm ((gp (l.getD 0 default),au (l.getD 0 default))::(ct.nV iM l).map λ n=>(gp n,au n)):=
 ((ct.ajb (key:=iM) aF).symm.map _)
theorem ir.least (s:ir gp au iM f h src a8 l dc rest) (aF:0<l.length):∀ e∈l.map λ n=>(gp n,au n),au (l.getD 0 default)+h (gp (l.getD 0 default))≤e.2+h e.1:=by
 intro e he;obtain ⟨n,hn,rfl⟩:=aRs.1 he;have γ:=s.hp.least n hn;rw [(s.all n hn).1,(s.all _ (jj aF)).1] at γ;exact γ
theorem ir.sub (aF:0<l.length) (hn:n∈ct.nV iM l):n∈l:=(ct.ajb (key:=iM) aF).subset (aQ1 _ hn)
theorem ir.aBG (s:ir gp au iM f h src a8 l dc []) (aF:0<l.length) (hd:0≤f.aA a8 (gp (l.getD 0 default))):ir gp au iM f h src a8 (ct.nV iM l) dc [] :=
 ⟨s.len,s.inv.az0 (ir.ai3 aF) hd,ct.aja s.hp aF,λ n hn=>s.all n (ir.sub aF hn),s.cG,s.gr⟩
theorem ir.new (s:ir gp au iM f h src a8 l dc []) (hf:f.bn=0) (o:p6.iH f.cP f.gu h) (aF:0<l.length) (hd:f.aA a8 (gp (l.getD 0 default))<0):
  ir gp au iM f h src (a8.set (f.at_ (gp (l.getD 0 default))) (au (l.getD 0 default))) (ct.nV iM l) (gp (l.getD 0 default)) (f.cP (gp (l.getD 0 default)))∧und (a8.set (f.at_ (gp (l.getD 0 default))) (au (l.getD 0 default)))+1=und a8:=by
 have aM:=(s.all _ (jj aF (d:=default))).2;have ar:=aE.jO aM;have Φ:=s.adO o (jj aF (d:=default));have hu:und (a8.set (f.at_ (gp (l.getD 0 default))) (au (l.getD 0 default)))+1=und a8:=akR Φ.1 a8 _ (by rw [s.len];exact (aE.ya hf ar).1) (by rw [aE.GG ar] at hd;exact hd);refine ⟨⟨by rw [aQS];exact s.len,(s.inv.azZ o (ir.ai3 aF) hd (s.least aF) (aE.O5 hf s.len ar) (λ z bB=>aE.O6 hf ar bB)).1,ct.aja s.hp aF,λ n hn=>s.all n (ir.sub aF hn),λ c=> ?_,λ c hc=> ?_⟩,hu⟩
 ·by_cases e:c=gp (l.getD 0 default)
  ·rw [e,aE.O5 hf s.len ar];omega
  ·rw [aE.O6 hf ar e];have:=s.cG c;omega
 ·by_cases e:c=gp (l.getD 0 default)
  ·rw [e];exact aM
  ·rw [aE.O6 hf ar e] at hc;exact s.gr c hc
theorem ir.push (s:ir gp au iM f h src a8 l dc (y::rest)) (o:p6.iH f.cP f.gu h) (aM:f.ground y=true) (γ:gp n=y) (ab:au n=f.aA a8 dc+f.gu y) (aw:iM n=au n+h y):ir gp au iM f h src a8 (ct.push iM l n) dc rest:=by
 refine ⟨s.len,s.inv.push o ?_,ct.aAh s.hp,λ m hm=> ?_,s.cG,s.gr⟩
 ·have:=(ct.ajg (key:=iM) (l:=l) (x:=n)).map λ n=>(gp n,au n);rw [aRw,γ,ab] at this;exact this
 ·rcases aQ7.1 ((ct.ajg (key:=iM)).subset hm) with rfl | hm
  ·rw [γ];exact ⟨aw,aM⟩
  ·exact s.all m hm
theorem ir.pass (s:ir gp au iM f h src a8 l dc (y::rest)) (aK:0≤f.aA a8 y):ir gp au iM f h src a8 l dc rest:=⟨s.len,s.inv.skip aK,s.hp,s.all,s.cG,s.gr⟩
theorem X1 {f:aE} {x:ax} {j:Nat} (ay:j<4):((dU x).drop j).filter f.ground=if f.ground ((dU x).getD j default) then (dU x).getD j default::((dU x).drop (j+1)).filter f.ground else ((dU x).drop (j+1)).filter f.ground:=by
 have az:(dU x).length=4:=rfl;rw [aSA (by omega),aSf,mW (by omega)]
theorem ir.ayb (s:ir gp au iM f h src a8 l dc (((dU dc).drop j).filter f.ground)) (ay:j<4) (aM:f.ground ((dU dc).getD j default)=false):ir gp au iM f h src a8 l dc (((dU dc).drop (j+1)).filter f.ground):=by
 rw [X1 ay,aQV (by rw [aM];decide)] at s;exact s
theorem ir.ax9 (s:ir gp au iM f h src a8 l dc (((dU dc).drop j).filter f.ground)) (ay:j<4) (aK:0≤f.aA a8 ((dU dc).getD j default)) (aM:f.ground ((dU dc).getD j default)=true):ir gp au iM f h src a8 l dc (((dU dc).drop (j+1)).filter f.ground):=by
 rw [X1 ay,aQZ aM] at s;exact s.pass aK
theorem ir.aya (s:ir gp au iM f h src a8 l dc (((dU dc).drop j).filter f.ground)) (o:p6.iH f.cP f.gu h) (ay:j<4) (aM:f.ground ((dU dc).getD j default)=true) (γ:gp n=(dU dc).getD j default) (ab:au n=f.aA a8 dc+f.gu ((dU dc).getD j default)) (aw:iM n=au n+h ((dU dc).getD j default)):
  ir gp au iM f h src a8 (ct.push iM l n) dc (((dU dc).drop (j+1)).filter f.ground):=by
 rw [X1 ay,aQZ aM] at s;exact s.push o aM γ ab aw
end
end
section
structure b9 where
 cell:ax
 a8:Int
 all:Int
 deriving DecidableEq,Inhabited
namespace b9
def cells (a:b9):List Value:= [.int .i64 (a.cell.x), .int .i64 (a.cell.y), .int .i64 (a.a8), .int .i64 (a.all)]
def ok (a:b9):Prop:=(Lit.int .i64 a.cell.x).wf=true∧(Lit.int .i64 a.cell.y).wf=true∧(Lit.int .i64 a.a8).wf=true∧(Lit.int .i64 a.all).wf=true
def raw (j:Nat) (u:Value):Prop:=match j with
 | 0=>∃ n:Int,u= .int .i64 n
 | 1=>∃ n:Int,u= .int .i64 n
 | 2=>∃ n:Int,u= .int .i64 n
 | 3=>∃ n:Int,u= .int .i64 n
 | _=>True
theorem qZ (a:b9):∀ (j:Nat) u,a.cells[j]? =some u→raw j u:=by
 intro j u hu
 match j,hu with
 | 0,hu=>exact ⟨_,(aQL hu).symm⟩
 | 1,hu=>exact ⟨_,(aQL hu).symm⟩
 | 2,hu=>exact ⟨_,(aQL hu).symm⟩
 | 3,hu=>exact ⟨_,(aQL hu).symm⟩
 | j+4,hu=>exact trivial
theorem qY (a:b9):∀ u∈a.cells,u.oneCell'=true:=by
 intro u hu;unfold cells at hu;simp only [aQ7,aSb,aSV] at hu;rcases hu with rfl | rfl | rfl | rfl<;>rfl
def rep:τ b9:=τ.flat 4 cells ok raw (λ _=>rfl) qY qZ
def zero:Value:= .agg #[.int .i64 0, .int .i64 0, .int .i64 0, .int .i64 0]
theorem iC:∀ (j:Nat) u,zero.cells[j]? =some u→rep.raw j u:=by
 intro j u hu;have hu:(#[(.int .i64 0:Value),(.int .i64 0:Value),(.int .i64 0:Value),(.int .i64 0:Value)]:Array Value)[j]? =some u:=hu
 match j,hu with
 | 0,hu=>exact ⟨_,(aQL hu).symm⟩
 | 1,hu=>exact ⟨_,(aQL hu).symm⟩
 | 2,hu=>exact ⟨_,(aQL hu).symm⟩
 | 3,hu=>exact ⟨_,(aQL hu).symm⟩
 | j+4,hu=>cases hu
theorem info:(prog.info? 313).map (λ i=>(i.zero,i.size,i.bytes))=some (some zero,4,32):=by kernel_rfl
def sh:gi:=(.cons (.cons (.int .i64) (.cons (.int .i64) .nil)) (.cons (.int .i64) (.cons (.int .i64) .nil)))
end b9
end
section
abbrev r4 (f:aE) (a b:ax) (a8:List Int) (l:List b9) (dc:ax) (rest:List ax):Prop:=ir b9.cell b9.a8 b9.all f (aE.kr b) (λ c=>c=a) a8 l dc rest
def wv (f:aE) (b:ax) (a8:List Int):Prop:=0≤f.aA a8 b→∀ x,0≤f.aA a8 x→f.aA a8 x+aE.kr b x≤f.aA a8 b
structure o9 (f:aE) (a b:ax) (a8:List Int):Prop where
 len:a8.length=f.aW.length
 spec:p6.Spec f.cP f.gu (aE.kr b) (λ c=>c=a) b (f.aA a8)
 cG:∀ c,f.aA a8 c≤3 * (f.aW.length:Int)
 gr:∀ c,0≤f.aA a8 c→f.ground c=true
section
variable {f:aE} {a b dc:ax} {a8:List Int} {l:List b9} {bU:b9} {rest:List ax}
theorem aDk (s:r4 f a b a8 l dc []) (hf:f.bn=0) (aF:0<l.length) (hx:l.getD 0 default=bU) (hd:f.aA a8 bU.cell<0) (hv:wv f b a8) (hc:f.aA a8 b<0∨bU.all≤f.aA a8 b):wv f b (a8.set (f.at_ bU.cell) bU.a8):=by
 have hm:bU∈l:=by rw [← hx];exact jj aF
 obtain ⟨ha,aM⟩:=s.all bU hm;have ar:=aE.jO aM;have γ:=aE.O5 (v:=bU.a8) hf s.len ar;have ab:∀ z,z≠bU.cell→f.aA (a8.set (f.at_ bU.cell) bU.a8) z=f.aA a8 z:=λ z bB=>aE.O6 hf ar bB;have afL:=λ z bB=>s.inv.mono z bB (bU.cell,bU.a8) (aRs.2 ⟨bU,hm,rfl⟩);dsimp only at afL;intro Φ z bB;by_cases e:b=bU.cell
 ·have asx:f.aA (a8.set (f.at_ bU.cell) bU.a8) b=bU.a8:=by rw [e];exact γ
  rw [asx];have e0:aE.kr b bU.cell=0:=by rw [← e];exact aE.Un b
  by_cases JR:z=bU.cell
  ·rw [JR,γ];omega
  ·rw [ab z JR] at bB ⊢;have:=afL z bB;omega
 ·rw [ab b e] at Φ ⊢;by_cases JR:z=bU.cell
  ·rw [JR,γ];omega
  ·rw [ab z JR] at bB ⊢;exact hv Φ z bB
theorem ai2 (s:r4 f a b a8 l dc []) (hv:wv f b a8) (he:(0≤f.aA a8 b∧∀ e∈l.map λ n=>(n.cell,n.a8),f.aA a8 b<e.2+aE.kr b e.1)∨(l.map λ n=>(n.cell,n.a8))= []):o9 f a b a8 :=
 ⟨s.len,s.inv.ends (aE.QD f b) (aE.Un b) hv he,λ c=>by have:=s.cG c;omega,s.gr⟩
theorem azQ (s:r4 f a b a8 l dc []) (hv:wv f b a8) (h:l.length=0):o9 f a b a8:=ai2 s hv (.inr (by rw [aRd h];rfl))
theorem azP (s:r4 f a b a8 l dc []) (hv:wv f b a8) (aF:0<l.length) (Φ:0≤f.aA a8 b) (h:f.aA a8 b<(l.getD 0 default).all):o9 f a b a8 :=
 ai2 s hv (.inl ⟨Φ,λ e he=>by
  have γ:=s.least aF e he;rw [← (s.all _ (jj aF)).1] at γ;omega⟩)
theorem r4.node (s:r4 f a b a8 l dc rest) (hf:f.bn=0) (Φ:f.fe b=true) (hn:bU∈l):0≤bU.cell.x∧bU.cell.x<f.wide∧0≤bU.cell.y∧bU.cell.y<f.high∧0≤bU.a8∧bU.a8≤4803∧0≤bU.all∧bU.all≤5000∧bU.ok:=by
 obtain ⟨ha,aM⟩:=s.all bU hn;obtain ⟨_,_,i1,i2,i3,i4⟩:=aE.idx hf (aE.jO aM);obtain ⟨_,_,aKp,Wt,aKq,aKr⟩:=aE.idx hf Φ;obtain ⟨g1,g2,g3,g4,g5,g6⟩:=aE.j5 hf;obtain ⟨γ,ab⟩:=s.adO (aE.QD f b) hn;have az:=aE.d_ hf;have he:0≤aE.kr b bU.cell∧aE.kr b bU.cell≤160:=by
  refine ⟨aE.adN _ _, ?_⟩;unfold aE.kr;have cj:=iP (b.x - bU.cell.x);have a2:=iP (b.y - bU.cell.y);rcases (show b.x - bU.cell.x<0∨0≤b.x - bU.cell.x by omega) with h | h
  ·have:=cj.2.2.2 h;rcases (show b.y - bU.cell.y<0∨0≤b.y - bU.cell.y by omega) with c8 | c8
   ·have:=a2.2.2.2 c8;omega
   ·have:=a2.2.2.1 c8;omega
  ·have:=cj.2.2.1 h;rcases (show b.y - bU.cell.y<0∨0≤b.y - bU.cell.y by omega) with c8 | c8
   ·have:=a2.2.2.2 c8;omega
   ·have:=a2.2.2.1 c8;omega
 refine ⟨i1,i2,i3,i4,γ,by omega,by omega,by omega,bM.2 (by omega),bM.2 (by omega),bM.2 (by omega),bM.2 (by omega)⟩
theorem z7 (hf:f.bn=0) (az:a8.length=f.aW.length) {c:ax} (hc:f.fe c=true):a8[(c.y * f.wide+c.x).toNat]? =some (f.aA a8 c):=by
 rw [aE.GG hc];exact df (u:= -1) (show f.at_ c<a8.length by rw [az];exact (aE.ya hf hc).1)
theorem dZ (hf:f.bn=0) (az:a8.length=f.aW.length) {c:ax} (hc:f.fe c=true):(c.y * f.wide+c.x).toNat<a8.length∧0≤c.y * f.wide+c.x∧c.y * f.wide+c.x≤1600:=by
 have γ:=aE.ya hf hc;obtain ⟨a0,cj,_⟩:=aE.idx hf hc;have:=aE.d_ hf;unfold aE.at_ at γ;omega
theorem abk (p q:Bool):p=false∨(p=true∧q=true)∨(p=true∧q=false):=by cases p<;>cases q<;>simp
end
end
section
section
variable {f:aE} {a b c:ax} {a8 OY:List Int} {aA:ax→Int}
noncomputable def cI (f:aE) (a b:ax):ax→Int :=
 @dite _ (∃ a8,o9 f a b a8) (Classical.propDecidable _) (λ h=>f.aA h.choose) λ _=>λ _=> -1
theorem o9.O3 (h:o9 f a b a8):f.aA a8=cI f a b:=by
 have hex:∃ a8,o9 f a b a8:=⟨a8,h⟩;unfold cI;rw [dif_pos hex]
 funext x
 exact h.spec.uniq hex.choose_spec.spec x
theorem o9.get (h:o9 f a b a8) (hf:f.bn=0) {c:ax} (hc:f.fe c=true):a8[(c.y * f.wide+c.x).toNat]? =some (cI f a b c):=by rw [← h.O3];exact z7 hf h.len hc
theorem aAi {β:Type} [Inhabited β] {key:β→Int} {x:β}:ct.push key [] x= [x]:=by
 unfold ct.push ct.pU;rw [aQV (by simp)];rfl
theorem O4 {n:Nat}:f.aA (List.replicate n (-1)) c= -1:=by
 unfold aE.aA;split
 ·rw [aQK,aRW];split<;>rfl
 ·rfl
theorem r4.start (hf:f.bn=0) (ha:f.ground a=true) (dc:ax):r4 f a b (List.replicate f.aW.length (-1)) (ct.push b9.all [] ⟨a,0,0+aE.kr b a⟩) dc []:=by
 rw [aAi];refine ⟨aRk,p6.Inv.start (λ x=>O4) (λ e he=> ?_) (λ s hs=> ?_),λ i aF γ=>by simp at γ;omega,λ n hn=> ?_,λ c=> ?_,λ c hc=>by rw [O4] at hc;omega⟩
 ·rw [aRw,aSC,aQJ] at he;subst he;exact ⟨Z,Z⟩
 ·subst hs;exact aRa
 ·rw [aQJ.1 hn];exact ⟨Z,ha⟩
 ·rw [O4,Yo];omega
theorem wv.start:wv f b (List.replicate f.aW.length (-1)):=λ h=>by rw [O4] at h;omega
def k_ (f:aE) (aA:ax→Int) (c:ax):ax:=((dU c).find? λ n=>f.ground n && decide (0≤aA n) && decide (aA n+f.gu c=aA c)).getD c
def wz (f:aE) (aA:ax→Int) (a:ax):Nat→ax→List ax
 | 0,c=> [c]
 | n+1,c=>if c=a then [c] else c::wz f aA a n (k_ f aA c)
structure n' (f:aE) (a:ax) (aA:ax→Int):Prop where
 zero:aA a=0
 pos:∀ c,0≤aA c→c≠a→∃ p,0≤aA p∧c∈f.cP p∧aA c=aA p+f.gu c
 gr:∀ c,0≤aA c→f.ground c=true
theorem n'.prev (h:n' f a aA) (hc:0≤aA c) (fb:c≠a):k_ f aA c∈dU c∧f.ground (k_ f aA c)=true∧0≤aA (k_ f aA c)∧aA (k_ f aA c)+f.gu c=aA c:=by
 obtain ⟨p,γ,ab,aw⟩:=h.pos c hc fb;have hp:p∈dU c:=aE.X2 (aE.LL.1 ab).1;have PT:(f.ground p && decide (0≤aA p) && decide (aA p+f.gu c=aA c))=true:=by
  rw [h.gr p γ,aRi γ,aRi aw.symm];rfl
 unfold k_;cases hf:(dU c).find? λ n=>f.ground n && decide (0≤aA n) && decide (aA n+f.gu c=aA c) with
 | none=>exact absurd PT (aSa.1 hf p hp)
 | some q =>
  have I:=aT2 hf;simp only [aQT,aRg] at I;exact ⟨aTG hf,I.1.1,I.1.2,I.2⟩
theorem n'.fuel (h:n' f a aA):∀ (n:Nat) (c:ax),0≤aA c→(aA c).toNat≤n→wz f aA a n c=wz f aA a (aA c).toNat c:=by
 intro n;induction n using Nat.strongRecOn with
 | ind n bt =>
  intro c hc hn;by_cases fb:c=a
  ·subst fb;have:(aA c).toNat=0:=by rw [h.zero];rfl
   rw [this];cases n with
   | zero=>rfl
   | succ n=>unfold wz;rw [aQZ rfl]
  ·obtain ⟨eK,fr,l0,vB⟩:=h.prev hc fb;have av:=f.pG (c:=c);obtain ⟨m,hm⟩:∃ m,(aA c).toNat=m+1:=⟨(aA c).toNat - 1,by omega⟩;obtain ⟨h4,avE⟩:∃ h4,n=h4+1:=⟨n - 1,by omega⟩;subst avE;rw [hm,wz,wz,aQV fb,aQV fb,bt h4 (by omega) _ l0 (by omega),bt m (by omega) _ l0 (by omega)]
def fJ (f:aE) (aA:ax→Int) (a c:ax):List ax:=wz f aA a (aA c).toNat c
theorem AV (h:n' f a aA):fJ f aA a a= [a]:=by unfold fJ;rw [h.zero];rfl
theorem AW (h:n' f a aA) (hc:0≤aA c) (fb:c≠a):fJ f aA a c=c::fJ f aA a (k_ f aA c):=by
 obtain ⟨eK,fr,l0,vB⟩:=h.prev hc fb;have av:=f.pG (c:=c);unfold fJ;obtain ⟨m,hm⟩:∃ m,(aA c).toNat=m+1:=⟨(aA c).toNat - 1,by omega⟩;rw [hm,wz,aQV fb,h.fuel m _ l0 (by omega)]
theorem n'.of (h:o9 f a b a8) (Φ:0≤f.aA a8 b):n' f a (f.aA a8):=by
 have bB:0≤f.aA a8 a→f.aA a8 a=0:=λ aF=>by
  have:=(h.spec.oj a aF).1.2 0 (.start rfl);omega
 have key:∀ n:Nat,∀ c,0≤f.aA a8 c→(f.aA a8 c).toNat=n→0≤f.aA a8 a:=by
  intro n;induction n using Nat.strongRecOn with
  | ind n bt =>
   intro c hc hn;rcases h.spec.pred c hc with ⟨γ,_⟩ | ⟨p,γ,ab,aw⟩
   ·subst γ;exact hc
   ·have:=f.pG (c:=c);exact bt (f.aA a8 p).toNat (by omega) p γ Z
 have ha:=key _ b Φ rfl;refine ⟨bB ha,λ c hc fb=> ?_,h.gr⟩;rcases h.spec.pred c hc with ⟨γ,_⟩ | γ
 ·exact absurd γ fb
 ·exact γ
theorem n'.EZ (h:o9 f a b a8) (Φ:0≤cI f a b b):n' f a (cI f a b):=by rw [← h.O3] at Φ ⊢;exact n'.of h Φ
theorem o9.aoq (h:o9 f a b a8) (c:ax):cI f a b c≤3 * (f.aW.length:Int):=by rw [← h.O3];exact h.cG c
noncomputable def gQ (f:aE) (a b:ax):Int:=if f.dD a≠0 then f.dD a else if f.dD b≠0 then f.dD b else if f.place a=1∨f.place b=1 then 9 else if cI f a b b<0 then 6 else 0
noncomputable def ot (f:aE) (a b:ax):Int:=if gQ f a b=0 then cI f a b b else 0
noncomputable def fL (f:aE) (a b:ax):List ax:=if gQ f a b=0 then (fJ f (cI f a b) a b).reverse else []
theorem asH (h:f.dD a≠0):gQ f a b=f.dD a:=by unfold gQ;rw [aQZ h]
theorem asI (h:f.dD a=0) (ab:f.dD b≠0):gQ f a b=f.dD b:=by unfold gQ;rw [aQV (by rw [h];simp),aQZ ab]
theorem NU (h:f.dD a=0):f.bn=0∧f.fe a=true:=by
 have hc:f.bn=0:=by
  by_cases hc:f.bn=0
  ·exact hc
  ·rw [(aE.S4 hc).1] at h;exact h
 exact ⟨hc,an9 hc h⟩
where
 an9 {f:aE} {c:ax} (h:f.bn=0) (he:f.dD c=0):f.fe c=true:=by
  cases ar:f.fe c with
  | true=>rfl
  | false=>rw [(aE.Jm h ar).1] at he;omega
theorem asK (h:f.dD a=0) (ab:f.dD b=0) (aw:f.place a=1∨f.place b=1):gQ f a b=9:=by unfold gQ;rw [aQV (by rw [h];simp),aQV (by rw [ab];simp),aQZ aw]
theorem asJ (hf:f.bn=0) (ha:f.ground a=true) (Φ:f.ground b=true) (h:cI f a b b<0):gQ f a b=6:=by
 unfold gQ;rw [aQV (by rw [(aE.ma hf (aE.jO ha)).1];simp),aQV (by rw [(aE.ma hf (aE.jO Φ)).1];simp),aQV (by rintro (γ | γ);exact aE.BS ha γ;exact aE.BS Φ γ),aQZ h]
theorem Uu (hf:f.bn=0) (ha:f.ground a=true) (Φ:f.ground b=true) (h:0≤cI f a b b):gQ f a b=0:=by
 unfold gQ;rw [aQV (by rw [(aE.ma hf (aE.jO ha)).1];simp),aQV (by rw [(aE.ma hf (aE.jO Φ)).1];simp),aQV (by rintro (γ | γ);exact aE.BS ha γ;exact aE.BS Φ γ),aQV (by omega)]
theorem Us (f:aE) (a b:ax):(f.dD a≠0∧gQ f a b=f.dD a)∨(f.dD a=0∧f.dD b≠0∧gQ f a b=f.dD b)∨(f.dD a=0∧f.dD b=0∧(f.place a=1∨f.place b=1)∧gQ f a b=9)∨(f.bn=0∧f.ground a=true∧f.ground b=true∧((cI f a b b<0∧gQ f a b=6)∨(0≤cI f a b b∧gQ f a b=0))):=by
 by_cases γ:f.dD a=0
 ·by_cases ab:f.dD b=0
  ·obtain ⟨hc,K3⟩:=NU γ;obtain ⟨_,Wn⟩:=NU ab;by_cases aw:f.place a=1∨f.place b=1
   ·exact .inr (.inr (.inl ⟨γ,ab,aw,asK γ ab aw⟩))
   ·have ga:=aE.aem K3 (λ h=>aw (.inl h));have u7:=aE.aem Wn (λ h=>aw (.inr h));refine .inr (.inr (.inr ⟨hc,ga,u7, ?_⟩));by_cases aX:cI f a b b<0
    ·exact .inl ⟨aX,asJ hc ga u7 aX⟩
    ·exact .inr ⟨by omega,Uu hc ga u7 (by omega)⟩
  ·exact .inr (.inl ⟨γ,ab,asI γ ab⟩)
 ·exact .inl ⟨γ,asH γ⟩
end
end
section
structure dj where
 id:Int
 bp:ax
 deriving DecidableEq,Inhabited
namespace dj
def cells (a:dj):List Value:= [.int .i64 (a.id), .int .i64 (a.bp.x), .int .i64 (a.bp.y)]
def ok (a:dj):Prop:=(Lit.int .i64 a.id).wf=true∧(Lit.int .i64 a.bp.x).wf=true∧(Lit.int .i64 a.bp.y).wf=true
def raw (j:Nat) (u:Value):Prop:=match j with
 | 0=>∃ n:Int,u= .int .i64 n
 | 1=>∃ n:Int,u= .int .i64 n
 | 2=>∃ n:Int,u= .int .i64 n
 | _=>True
theorem qZ (a:dj):∀ (j:Nat) u,a.cells[j]? =some u→raw j u:=by
 intro j u hu
 match j,hu with
 | 0,hu=>exact ⟨_,(aQL hu).symm⟩
 | 1,hu=>exact ⟨_,(aQL hu).symm⟩
 | 2,hu=>exact ⟨_,(aQL hu).symm⟩
 | j+3,hu=>exact trivial
theorem qY (a:dj):∀ u∈a.cells,u.oneCell'=true:=by
 intro u hu;unfold cells at hu;simp only [aQ7,aSb,aSV] at hu;rcases hu with rfl | rfl | rfl<;>rfl
def rep:τ dj:=τ.flat 3 cells ok raw (λ _=>rfl) qY qZ
def zero:Value:= .agg #[.int .i64 0, .int .i64 0, .int .i64 0]
theorem iC:∀ (j:Nat) u,zero.cells[j]? =some u→rep.raw j u:=by
 intro j u hu;have hu:(#[(.int .i64 0:Value),(.int .i64 0:Value),(.int .i64 0:Value)]:Array Value)[j]? =some u:=hu
 match j,hu with
 | 0,hu=>exact ⟨_,(aQL hu).symm⟩
 | 1,hu=>exact ⟨_,(aQL hu).symm⟩
 | 2,hu=>exact ⟨_,(aQL hu).symm⟩
 | j+3,hu=>cases hu
theorem info:(prog.info? 225).map (λ i=>(i.zero,i.size,i.bytes))=some (some zero,3,24):=by kernel_rfl
def sh:gi:=(.cons (.int .i64) (.cons (.cons (.int .i64) (.cons (.int .i64) .nil)) .nil))
end dj
theorem ae4 {w:World} {cs:List Value} {a:dj} (h:dj.rep.has w cs a):cs=a.cells:=aSO (show cs=a.cells∧a.ok from h)
end
section
open Go.RowKit Go.Maps
namespace ax
def key (c:ax):Value:= .agg #[.int .i64 c.x, .int .i64 c.y]
theorem laid:laidOutB prog=true:=by kernel_rfl
theorem axl (x y:Int):(Value.agg #[.int .i64 x, .int .i64 y]).formed prog 49 =true:=by kernel_rfl
theorem axo:prog.keyType 49 =true:=by kernel_rfl
theorem axn:∃ n,prog.types.size+1=n+2:=by
 have:1≤prog.types.size:=by decide +kernel
 exact ⟨prog.types.size - 1,by omega⟩
theorem axk:prog.cellsOf 49 =2∧prog.cellsOf 3 =1:=by
 constructor<;>kernel_rfl
theorem axm (c:ax) (h:c.ok):∃ l,keyOf prog 49 (key c)=some l:=by
 obtain ⟨hx,aK⟩:=h;obtain ⟨n,hn⟩:=axn;unfold key keyOf;have hu:=underlying49;rw [hu];simp only [axo,axl,Bool.and_self,aSk,hn];have γ:prog.keyLits (n+2) 49 [.int .i64 c.x, .int .i64 c.y]=some [.int .i64 c.x, .int .i64 c.y]:=by
  simp [Program.keyLits,hu,underlying3,axk,hx,aK]
 exact ⟨.string (keyBytes [.int .i64 c.x, .int .i64 c.y]),by
  have e:(Value.agg #[.int .i64 c.x, .int .i64 c.y]).cells.toList= [.int .i64 c.x, .int .i64 c.y]:=rfl;rw [e,γ];rfl⟩
theorem yE:SA prog 49 key ok where
 keyed:=Keyed.of_law (Go.deep_law_laid laid (m:=100) (by decide) (by decide +kernel) (by kernel_rfl) (by kernel_rfl))
 lit:=axm
 inj:=by
  intro a b h;unfold key at h;injection h with h
  obtain ⟨x,y⟩:=a;obtain ⟨z,t⟩:=b;simp at h;simp [h]
end ax
end
end Go.Proofs.YtlikikpgmmkjbaaGreat
