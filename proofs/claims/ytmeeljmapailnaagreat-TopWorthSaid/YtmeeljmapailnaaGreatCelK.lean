import Derived.Test.YtmeeljmapailnaaGreatGolR
set_option linter.unusedVariables false
set_option linter.unusedSimpArgs false
set_option maxRecDepth 100000
set_option maxHeartbeats 4000000
open Go.RowKit
namespace Go.Proofs.YtmeeljmapailnaaGreat
open Tryz
abbrev aR9:=@Or.elim
abbrev aSq:=@decide_eq_true_eq
abbrev aSx:=@List.length_replicate
abbrev aSD:=@decide_eq_false_iff_not
abbrev aSJ:=@Bool.or_eq_false_iff
abbrev aS4:=@List.filter_cons
abbrev aTg:=@List.mem_filter
abbrev aTw:=@List.range_succ
abbrev aTy:=@Nat.le_of_eq
abbrev aTD:=@List.set_cons_succ
abbrev aTK:=@List.mem_of_find?_eq_some
abbrev aTL:=@List.drop_eq_getElem_cons
abbrev aTT:=@List.set_cons_zero
abbrev aTX:=@Bool.not_true
abbrev aT8:=@List.mem_of_mem_take
abbrev aUE:=@decide_false
abbrev aUG:=@Int.add_mul_emod_self_right
abbrev aUI:=@Bool.not_false
abbrev aUN:=@decide_true
abbrev aUT:=@Bool.false_or
abbrev aU5:=@List.find?_some
abbrev aVt:=@Bool.or_false
abbrev aVI:=@Int.sub_self
abbrev aVJ:=@Int.emod_eq_of_lt
abbrev aVK:=@Int.add_comm
abbrev aVL:=@Bool.true_or
abbrev aVM:=@Bool.or_true
abbrev aV8:=@Int.tdiv_eq_ediv_of_nonneg
abbrev aWi:=@List.map_take
section
namespace τ
variable {α:Type} {R:τ α}
theorem aF.auR {E by_ B c:Nat} {A:Option Addr} {l:List α} {w:World} {ps:List (List Nat×List Value)} (hp:R.xe) (dK:de (λ x a=>R.own w B x.1 x.2 a) ps l):∀ y∈ps,y.1= []:=λ y aI=>by
 obtain ⟨b,Φ⟩:=dK.left y aI;exact hp.2 Φ
theorem auQ {ps:List (List Nat×List Value)} (h:∀ y∈ps,y.1= []):(ps.map (·.1)).flatten= []:=by
 rw [aWn];intro x hx;obtain ⟨y,aI,rfl⟩:=aSt.1 hx;exact h y aI
theorem aF.cut {E by_ B c:Nat} {A:Option Addr} {l:List α} {w:World} (h:R.aF E by_ w B (ah A) A c l) (hp:R.xe) (k:Nat) (ar:k≤l.length):R.aF E by_ w B (ah A) A c (l.take k):=by
 obtain ⟨Φ,ps,hf,hn,b4,dK⟩:=h;have ay:=RZ dK;have oB:ps.length=l.length:=dK.length;have κ:=aF.auR (E:=E) (by_:=by_) (c:=c) (A:=A) hp dK;have hlen:(l.take k).length=k:=by rw [aRZ];omega
 have hm:=aSI by_ ar;refine ⟨by rw [hlen];omega,ps.take k, ?_,hn, ?_,dK.NH k⟩
 ·rw [auQ λ y aI=>κ y (aT8 aI),aSz]
 ·rw [hlen,aWi,Qm k ay];obtain ⟨F7,Mm⟩:=b4;have hle:k * R.size≤l.length * R.size:=aSI _ ar;refine ⟨by rw [aRZ,F7];omega, ?_⟩;rcases Mm with ⟨Mm,aLs⟩ | ⟨g,cap,cur,hv,bf,fV,DJ,r9,hs,aC,br⟩
  ·injection Mm with aZ bh cF
   subst aZ cF;have:k=0:=by omega
   subst this;exact .inl ⟨Z,Z⟩
  ·injection hv with aZ bh cF
   subst aZ cF;exact .inr ⟨g,c,cur,Z,bf,fV,by omega,r9,hs,by rw [← aC,List.take_take,aTM hle],br⟩
end τ
section
variable {P:Program} {n:Nat} {E cU:List (Nat×Value)} {a:Act} {w w' w0 aT:World} {Q:Exit→Act→World→Prop} {ops:Array Oper} {v:Value}
variable {d:Option Nat} {ty:TypeId} {pos:String} {af:Array Edge} {g:Option (Nat×Bool)} {x y z:Operand} {t:TypeId} {rest:List Oper}
theorem alv {A:Option Addr} {len cap e s:Nat} {k:IntKind} (lo:Nat) {i:Int} (aC:P.underlying t=some (.slice e)) (hs:eI P e s) (hx:ev E x=some (.slice A len cap)) (aI:ev E y=some (.int k i)) (aq:i=(lo:Int)) (κ:lo≤len):
  cW P E ⟨d, .slice t x (some y) none none,ty,pos,af,g⟩ w (.slice (eW A cap lo s) (len - lo) (cap - lo)) w:=λ n a ha=>by
 subst aq;have lX:P.underlying t=some (.slice (P.elem t)):=by simp [Program.elem,aC]
 have nj:P.elem t=e:=by simp [Program.elem,aC]
 have aw:=run_slice_l (P:=P) (w:=w) t A len cap lX k (lo:Int) (by omega) (by omega);have a6:=aUv (P:=P) (w:=w) t (.slice A len cap) (some (.int k (lo:Int))) none none lX;rw [nj,hs w] at aw;simp only [execOp,ha.ev hx,ha.ev aI,Option.map,a6,aw,aSc,aR3,aSe,sliced,aSR,eW]
theorem ayB {k:IntKind} {i j:Int} (aG:0≤i) (κ:0<j) (hw:k.wrap (i / j)=i / j):Op.intDiv .quo k i j=pure (.int k (i / j)):=by
 unfold Op.intDiv;have e:i.tdiv j=i / j:=aV8 aG;rw [aR5 (by omega)];simp only [e,hw]
theorem ayC {k:IntKind} {i j:Int} (aG:0≤i) (κ:0<j):Op.intDiv .rem k i j=pure (.int k (i % j)):=by
 unfold Op.intDiv;have e:i.tmod j=i % j:=Int.tmod_eq_emod_of_nonneg aG;rw [aR5 (by omega)];simp only [e]
section
variable {k:IntKind} {i j:Int} {u:TypeId}
theorem aqg (hx:ev E x=some (.int k i)) (aI:ev E y=some (.int k j)) (aG:0≤i) (κ:0<j) (hw:k.wrap (i / j)=i / j):cW P E ⟨d, .binOp .quo t x y u,ty,pos,af,g⟩ w (.int k (i / j)) w:=pz hx aI (binOp_quo t k i j) (by rw [ayB aG κ hw];rfl)
theorem aqi (hx:ev E x=some (.int k i)) (aI:ev E y=some (.int k j)) (aG:0≤i) (κ:0<j):cW P E ⟨d, .binOp .rem t x y u,ty,pos,af,g⟩ w (.int k (i % j)) w:=pz hx aI (binOp_rem t k i j) (by rw [ayC aG κ];rfl)
theorem aCg {i j:Int} (aG:0≤i) (κ:0<j) (ab:i≤9223372036854775807):IntKind.i64.wrap (i / j)=i / j:=by
 have aZ:0≤i / j:=Int.ediv_nonneg aG (by omega);have bh:i / j≤i:=Int.ediv_le_self _ aG;exact bD ⟨by omega,by omega⟩
end
end
end
section
section
variable {α:Type} {p:α→Bool} {l L:List α} {d:α} {i j k:Nat}
theorem jC (h:k<l.length):l.getD k d∈l:=by rw [aRU,aRX h];exact aS8 h
theorem mK (h:k<l.length):l.getD k d=l[k]:=by rw [aRU,aRX h];rfl
theorem Rp (h:∀ i,i<l.length→p (l.getD i d)=false):gx p l= -1:=F8 λ j az=>by rw [← mK (d:=d) az];exact h j az
theorem Rq (ar:k<l.length) (κ:p (l.getD k d)=true) (h:∀ i,i<k→p (l.getD i d)=false):gx p l=(k:Int):=
 F9 ar (by rw [← mK (d:=d) ar];exact κ) λ j az=>by rw [← mK (d:=d) (by omega:j<l.length)];exact h j az
theorem z_ (h:k<l.length):l.take (k+1)=l.take k++ [l.getD k d]:=by rw [aSn h,mK h]
end
end
section
theorem O1:eX prog ax.rep 25 55 16:=eX.lV (z:=ax.zero) (k:=2) underlying25 ax.info rfl rfl (by decide) ax.jq
def hh (n:Int):Int:=if n<0 then -1 else if 0<n then 1 else 0
def cn (n:Int):Int:=if n<0 then -n else if 0<n then n else 0
theorem jF (n:Int):0≤cn n∧(-2000≤n∧n≤2000→cn n≤2000)∧(0≤n→cn n=n)∧(n<0→cn n= -n):=by unfold cn;split<;>(try split)<;>omega
theorem Jf (n:Int): -1≤hh n∧hh n≤1:=by unfold hh;split<;>(try split)<;>omega
def a_ (a b:ax):Int:=max (cn (b.x - a.x)) (cn (b.y - a.y))
def wF (a b:ax):Int:=min (cn (b.x - a.x)) (cn (b.y - a.y))
def qe (a b:ax) (s:Int×ax):Int×ax :=
  (if decide (a_ a b≤s.1+2 * wF a b) then s.1+2 * wF a b - 2 * a_ a b else s.1+2 * wF a b,
   ⟨if !decide (cn (b.x - a.x)<cn (b.y - a.y)) || decide (a_ a b≤s.1+2 * wF a b) then s.2.x+hh (b.x - a.x) else s.2.x,
    if decide (cn (b.x - a.x)<cn (b.y - a.y)) || decide (a_ a b≤s.1+2 * wF a b) then s.2.y+hh (b.y - a.y) else s.2.y⟩)
def cO (a b:ax):Nat→Int×ax
  | 0=>(0,a)
  | k+1=>qe a b (cO a b k)
def tG (a b:ax) (k:Nat):List ax:=(List.range (k+1)).map λ i=>(cO a b i).2
def hJ (a b:ax):List ax:=tG a b (a_ a b).toNat
theorem R3 (a b:ax) (k:Nat):tG a b (k+1)=tG a b k++ [(cO a b (k+1)).2]:=by unfold tG;rw [aTw,aSm];rfl
theorem Gv (a b:ax) (k:Nat):(tG a b k).length=k+1:=by simp [tG]
theorem aug (a b:ax):0≤wF a b∧wF a b≤a_ a b:=by
  have κ:=jF (b.x - a.x);have ab:=jF (b.y - a.y);unfold wF a_;omega
theorem ajR (a b:ax) (k:Nat): -a_ a b≤(cO a b k).1∧(cO a b k).1≤a_ a b:=by
  have hf:=aug a b;induction k with
  | zero=>show -a_ a b≤0∧0≤a_ a b;omega
  | succ k bx =>
    show -a_ a b≤(qe a b (cO a b k)).1∧(qe a b (cO a b k)).1≤a_ a b;unfold qe;simp only [aSq];split<;>omega
theorem ajS (a b:ax) (k:Nat):a.x - k≤(cO a b k).2.x∧(cO a b k).2.x≤a.x+k∧a.y - k≤(cO a b k).2.y∧(cO a b k).2.y≤a.y+k:=by
  have κ:=Jf (b.x - a.x);have ab:=Jf (b.y - a.y);induction k with
  | zero=>show a.x - _≤a.x∧a.x≤a.x+_∧a.y - _≤a.y∧a.y≤a.y+_;omega
  | succ k bx =>
    show a.x - _≤(qe a b (cO a b k)).2.x∧(qe a b (cO a b k)).2.x≤a.x+_∧a.y - _≤(qe a b (cO a b k)).2.y∧(qe a b (cO a b k)).2.y≤a.y+_;unfold qe;simp only;split<;>split<;>omega
theorem RQ (c:ax) (w:World) (h: -1000≤c.x∧c.x≤1000∧ -1000≤c.y∧c.y≤1000):
    Calls prog 165 #[.agg #[.int .i64 c.x, .int .i64 c.y]] w (λ e w'=>e= .returned (.bool true)∧Ext w w'):=by
  refine cl (n:=23) func165 Z Z Z ?_;refine aj<|cA Z Z Z Z λ cC bF a8 ef aa=> ?_;have:=a8.size;have bj:=γ (Ext.bN w) a8;have ei:=aa.lt;refine va Z<|ai<|aj<|J (av je Z)<|J (ao Z (aa.one bc Z))<|J (av je Z)<|J (ao Z (aa.one bc Z))<|J (YF Z (bD (by omega)))<|J (av jf Z)<|J (ao Z (aa.one bc Z))<|J (av jf Z)<|J (ao Z (aa.one bc Z))<|J (YF Z (bD (by omega)))<|J (azT Z Z Z Z)<|J (ble Z Z)<|vm Z<|bs Z Z Z Z (λ hc=>av je Z) Z<|bs Z Z Z Z (λ hc=>ao (gt hc Z) (aa.one bc Z)) Z<|bs Z Z Z Z (λ hc=>av jf Z) Z<|bs Z Z Z Z (λ hc=>ao (gt hc Z) (aa.one bc Z)) Z<|bs Z Z Z Z (λ hc=>oF (gt hc Z) (gt hc Z)) Z<|bs Z Z Z Z (λ hc=>ks (gt hc Z) Z) Z<| ?_;refine J (eN Z Z Z Z)<|va Z<|ai<|rt<|bd (.tmp Z .nil)<| ?_;exact ⟨Zd (by simp only [aR2,aSq];omega),bj⟩
theorem Sq (n:Int) (w:World) (h: -2000≤n∧n≤2000):
    Calls prog 166 #[.int .i64 n] w (λ e w'=>e= .returned (.tuple #[.int .i64 (hh n), .int .i64 (cn n)])∧Ext w w'):=by
  refine cl (n:=13) func166 Z Z Z ?_;refine aj<|va Z<|va Z<|ai<|aA<|bL<|aj<|vm Z<|J (blt Z Z)<|va Z<|ai<| ?_;refine dY Z (λ ow=> ?_) (λ ow=> ?_)
  · refine aj<|vm rfl<|J (YF rfl (bD (by omega)))<|va rfl<|va rfl<|ai<|rt<|e_<|bT<|bd (.tmp rfl (.tmp rfl .nil))<| ?_
    exact ⟨by unfold hh cn;simp only [*,aTG,aTm];try rfl,(Ext.bN w)⟩
  · refine aj<|vm rfl<|J (iJ rfl rfl)<|va rfl<|ai<| ?_
    refine dY Z (λ avM=> ?_) (λ avM=> ?_)
    · refine aj<|vm rfl<|va rfl<|va rfl<|ai<|rt<|e_<|bT<|bd (.tmp rfl (.tmp rfl .nil))<| ?_
      exact ⟨by unfold hh cn;simp only [*,aTG,aTm];try rfl,(Ext.bN w)⟩
    · refine fI<|bY<|aU<|aj<|va rfl<|va rfl<|ai<|rt<|bd (.tmp rfl (.tmp rfl .nil))<| ?_
      exact ⟨by unfold hh cn;simp only [*,aTG,aTm];try rfl,(Ext.bN w)⟩
theorem acH (a b:ax) (w:World) (h: -1000≤a.x∧a.x≤1000∧ -1000≤a.y∧a.y≤1000) (ab: -1000≤b.x∧b.x≤1000∧ -1000≤b.y∧b.y≤1000):
    Calls prog 134 #[.agg #[.int .i64 a.x, .int .i64 a.y], .agg #[.int .i64 b.x, .int .i64 b.y]] w (λ e w'=>e= .returned (.tuple #[.int .i64 (a_ a b), .int .i64 (cn (b.x - a.x)+cn (b.y - a.y)), .int .i64 0])∧Ext w w'):=by
  refine cl (n:=43) func134 Z Z Z ?_;refine aj<|cA Z Z Z Z λ cC bF a8 ef aa=> ?_;have:=a8.size;have bj:=γ (Ext.bN w) a8;have ei:=aa.lt;refine cA Z Z Z Z λ ew cu bl il ag=> ?_;have:=bl.size;have bO:=γ bj bl;have hW:=ag.lt;refine va Z<|va Z<|va Z<|ai<|aA<|aj<| ?_;have aa:=aa.later bl;refine J (ao Z (aa.all cm bU))<|ca Qb Z Z ((RQ a _ (by omega)).mono ?_);rintro e hX ⟨rfl,gM⟩;refine ⟨_,Z, ?_⟩;have:=gM.size;have cY:=γ bO gM;refine J (dV Z)<|vm Z<|mS Z Z Z<| ?_;have ag:=ag.later gM;refine J (ao Z (ag.all cm bU))<|mS Z Z Z<|ca Qb Z Z ((RQ b _ (by omega)).mono ?_);rintro e u' ⟨rfl,iU⟩;refine ⟨_,Z, ?_⟩;have:=iU.size;have hE:=γ cY iU;refine mS Z Z Z<|J (dV Z)<|J (sw Z Z)<|ai<|gZ Z<|bu<|aj<|J (av je Z)<| ?_;have ag:=ag.later iU;refine J (ao Z (ag.one bc Z))<|J (av je Z)<| ?_;have aa:=aa.later (γ gM iU);refine J (ao Z (aa.one bc Z))<|J (mJ Z Z (bD (by have:=jF (b.x - a.x);have:=jF (b.y - a.y);omega)))<|ca Qc Z Z ((Sq (b.x - a.x) _ (by omega)).mono ?_);rintro e Al ⟨rfl,lj⟩;refine ⟨_,Z, ?_⟩;have:=lj.size;have lJ:=γ hE lj;refine vm Z<|J (ex Z Z)<|J (ex Z Z)<|va Z<|va Z<|ai<|aj<|J (av jf Z)<| ?_;have ag:=ag.later lj;refine J (ao Z (ag.one bc Z))<|J (av jf Z)<| ?_;have aa:=aa.later lj;refine J (ao Z (aa.one bc Z))<|J (mJ Z Z (bD (by have:=jF (b.x - a.x);have:=jF (b.y - a.y);omega)))<|ca Qc Z Z ((Sq (b.y - a.y) _ (by omega)).mono ?_);rintro e tM ⟨rfl,hj⟩;refine ⟨_,Z, ?_⟩;have:=hj.size;have jH:=γ lJ hj;refine vm Z<|J (ex Z Z)<|J (ex Z Z)<|va Z<|va Z<|ai<|aj<|vm Z<|vm Z<|J (mx Z Z)<|vm Z<|vm Z<|J (bad Z Z (bD (by have:=jF (b.x - a.x);have:=jF (b.y - a.y);omega)))<|va Z<|va Z<|va Z<|ai<|rt<|bd (.tmp Z (.tmp Z (.tmp Z .nil)))<| ?_;exact ⟨Z,jH⟩
theorem aq3 (a b:ax) (w:World) (h: -1000≤a.x∧a.x≤1000∧ -1000≤a.y∧a.y≤1000) (ab: -1000≤b.x∧b.x≤1000∧ -1000≤b.y∧b.y≤1000):
    Calls prog 182 #[.agg #[.int .i64 a.x, .int .i64 a.y], .agg #[.int .i64 b.x, .int .i64 b.y]] w (λ e w'=>∃ A c,e= .returned (.tuple #[.slice A (hJ a b).length c, .int .i64 0])∧ax.rep.aF 55 16 w' w.heap.size (τ.ah A) A c (hJ a b)∧Ext w w'):=by
  refine cl (n:=93) func182 Z Z Z ?_;refine aj<|cA Z Z Z Z λ cC bF a8 ef aa=> ?_;have:=a8.size;have bj:=γ (Ext.bN w) a8;have ei:=aa.lt;refine cA Z Z Z Z λ ew cu bl il ag=> ?_;have:=bl.size;have bO:=γ bj bl;have hW:=ag.lt;refine va Z<|va Z<|ai<|aA<|aj<| ?_;have aa:=aa.later bl;refine J (ao Z (aa.all cm bU))<|ca Qb Z Z ((RQ a _ (by omega)).mono ?_);rintro e hX ⟨rfl,gM⟩;refine ⟨_,Z, ?_⟩;have:=gM.size;have cY:=γ bO gM;refine J (dV Z)<|vm Z<|mS Z Z Z<| ?_;have ag:=ag.later gM;refine J (ao Z (ag.all cm bU))<|mS Z Z Z<|ca Qb Z Z ((RQ b _ (by omega)).mono ?_);rintro e u' ⟨rfl,iU⟩;refine ⟨_,Z, ?_⟩;have:=iU.size;have hE:=γ cY iU;refine mS Z Z Z<|J (dV Z)<|J (sw Z Z)<|ai<|gZ Z<|bu<|aj<|J (av je Z)<| ?_;have ag:=ag.later iU;refine J (ao Z (ag.one bc Z))<|J (av je Z)<| ?_;have aa:=aa.later (γ gM iU);refine J (ao Z (aa.one bc Z))<|J (mJ Z Z (bD (by omega)))<|ca Qc Z Z ((Sq (b.x - a.x) _ (by omega)).mono ?_);rintro e Al ⟨rfl,lj⟩;refine ⟨_,Z, ?_⟩;have:=lj.size;have lJ:=γ hE lj;refine vm Z<|J (ex Z Z)<|J (ex Z Z)<|va Z<|va Z<|ai<|aj<|J (av jf Z)<| ?_;have ag:=ag.later lj;refine J (ao Z (ag.one bc Z))<|J (av jf Z)<| ?_;have aa:=aa.later lj;refine J (ao Z (aa.one bc Z))<|J (mJ Z Z (bD (by omega)))<|ca Qc Z Z ((Sq (b.y - a.y) _ (by omega)).mono ?_);rintro e tM ⟨rfl,hj⟩;refine ⟨_,Z, ?_⟩;have:=hj.size;have jH:=γ lJ hj;refine vm Z<|J (ex Z Z)<|J (ex Z Z)<|va Z<|va Z<|ai<|aj<|vm Z<|vm Z<|va Z<|va Z<|ai<|aA<|aj<|vm Z<|vm Z<|J (iJ Z Z)<|ai<| ?_;refine dY Z (λ Dr=> ?_) (λ Dr=> ?_)
  · have qZ:=jF (b.x - a.x)
    have pd:=jF (b.y - a.y);have iz:a_ a b=cn (b.y - a.y):=by unfold a_;omega
    have L8:wF a b=cn (b.x - a.x):=by unfold wF;omega
    have LQ:decide (cn (b.x - a.x)<cn (b.y - a.y))=true:=by exact aSw Dr
    refine rg<|vm Z<|vm Z<|va Z<|va Z<|ai<|aj<| ?_;have aa:=aa.later hj;refine J (ao Z (aa.all cm bU))<|cX (e:= 55) (cs:= [.int .i64 a.x, .int .i64 a.y]) Z (λ _=>by kernel_rfl) Z λ Am UB fe aMz abc=> ?_;have:=fe.size;have kE:=γ jH fe;have aO4:=abc.lt;refine va Z<|ai<|aj<|va Z<|ai<|aA<|aj<|vm Z<|vm Z<|ai<|bL<| ?_;have aa:=aa.later fe;have azA:∀ q∈τ.ah (some ⟨UB,0,none⟩),UB≤q:=λ q I=>aTy (aRT.1 I).symm;refine eL (λ cg cf aQ=>∃ k:Nat,∃ kp:Option Addr,∃ co:Nat,cf= [(2, .pointer (some ⟨bF,0,none⟩)),(4, .slice none 0 0),(5, .int .i64 0),(6, .int .i64 (hh (b.x - a.x))),(7, .int .i64 (cn (b.x - a.x))),(8, .int .i64 (hh (b.y - a.y))),(9, .int .i64 (cn (b.y - a.y))),(10, .int .i64 (cn (b.y - a.y))),(11, .int .i64 (cn (b.x - a.x))),(12, .slice kp ((tG a b k).length) co),(13, .int .i64 ((cO a b k).1)),(50, .int .i64 (cn (b.y - a.y))),(51, .int .i64 (k:Int))]∧cg=(cn (b.y - a.y)).toNat - k∧Ext w aQ∧aP aQ bF [.int .i64 ((cO a b k).2.x), .int .i64 ((cO a b k).2.y)] 55 (0,0)∧ax.rep.aF 55 16 aQ w.heap.size (τ.ah kp) kp co (tG a b k)∧((k:Int)≤cn (b.y - a.y))∧(∀ q∈τ.ah kp,q=bF→False)) _ _ ⟨0,some ⟨UB,0,none⟩,1,Z,Z,kE,aa,(aP.wI (R:=ax.rep) (by_:=16) (B:=w.heap.size) (k:= [a]) abc [[.int .i64 a.x, .int .i64 a.y]] Z ⟨⟨Z,bM.2 (by omega),bM.2 (by omega)⟩,trivial⟩ (by simp) (by simp) (by decide) (by omega)),(by have:=jF (b.y - a.y);have:=jF (b.x - a.x);omega),(λ q I Φ=>by (have:=azA q I;omega))⟩ (.cons Z (.cons Z (.cons Z (.cons Z (.cons Z (.cons Z (.cons Z (.cons Z (.cons Z (.cons Z (.cons (bW Z) (.cons Z (.cons (bW Z) .nil))))))))))))) ?_;rintro q6 aok yD ⟨k,kp,co,rfl,rfl,j_,fZ,fh,ar,A'⟩;have:=j_.size;have aB6:=fZ.lt;have aQy:=λ q I=>(fh.lt q I).2;have Φ:=ajR a b k;have hp:=ajS a b k;have fp:=Jf (b.x - a.x);have gI:=Jf (b.y - a.y);have qZ:=jF (b.x - a.x);have pd:=jF (b.y - a.y);have oB:=Gv a b k;refine aj<|J (blt Z Z)<|ai<|aA<| ?_;refine dY Z (λ avP=> ?_) (λ avP=> ?_)
    · refine bu<|aA<|bL<|aj<|vm rfl<|vm rfl<|J (C8 rfl rfl (bD (by omega)))<|J (bad rfl rfl (bD (by omega)))<|va rfl<|ai<|aj<|vm rfl<|vm rfl<|J (ks rfl rfl)<|va rfl<|ai<|aA<|aj<| ?_
      refine vm Z<|ai<| ?_;refine HG Z (λ LA=> ?_) (λ LA=> ?_)
      · rw [iz] at Φ
        have FP:decide (cn (b.y - a.y)≤((cO a b k).1)+(2 * (cn (b.x - a.x))))=true:=by exact aSw LA
        refine rg<|vm Z<|vm Z<|J (C8 Z Z (bD (by omega)))<|J (mJ Z Z (bD (by omega)))<|va Z<|ai<|aA<|aj<|vm Z<|vm Z<|J (ks Z Z)<|vm Z<|bs Z Z Z Z (λ hc=>aK Z) Z<|J (fB Z Z Z Z)<|ai<| ?_;have WH:((decide (cn (b.y - a.y)≤cn (b.x - a.x))) || (decide (cn (b.y - a.y)≤((cO a b k).1)+(2 * (cn (b.x - a.x))))))=true:=by simp only [aSL,aSq];omega
        refine fi (by rw [← WH];rfl)<|rg<|J (av je Z)<|J (ao Z (fZ.one bc Z))<|vm Z<|J (bad Z Z (bD (by omega)))<|J (av je Z)<|st (new:= [.int .i64 (((cO a b k).2.x)+(hh (b.x - a.x))), .int .i64 ((cO a b k).2.y)]) Z Z fZ Z dx Z Z Z λ SY kL fZ=> ?_;have:=kL.size;have vq:=Ext.mod j_ kL bt;refine ai<|aA<|aj<|vm Z<|vm Z<|J (iJ Z Z)<|vm Z<|bs Z Z Z Z (λ hc=>aK Z) Z<|J (fB Z Z Z Z)<|ai<| ?_;have Bw:((decide (cn (b.x - a.x)<cn (b.y - a.y))) || (decide (cn (b.y - a.y)≤((cO a b k).1)+(2 * (cn (b.x - a.x))))))=true:=by simp only [aSL,aSq];omega
        refine fi (by rw [← Bw];rfl)<|rg<|J (av jf Z)<|J (ao Z (fZ.one bc Z))<|vm Z<|J (bad Z Z (bD (by omega)))<|J (av jf Z)<|st (new:= [.int .i64 (((cO a b k).2.x)+(hh (b.x - a.x))), .int .i64 (((cO a b k).2.y)+(hh (b.y - a.y)))]) Z Z fZ Z dx Z Z Z λ NU zQ fZ=> ?_;have:=zQ.size;have yO:=Ext.mod vq zQ bt;refine ai<|rg<|vm Z<|J (ao Z (fZ.all cm bU))<|cX (e:= 55) (cs:= [.int .i64 (((cO a b k).2.x)+(hh (b.x - a.x))), .int .i64 (((cO a b k).2.y)+(hh (b.y - a.y)))]) Z (λ _=>by kernel_rfl) Z λ aFa aIE wV aMI abf=> ?_;have:=wV.size;have Tr:=γ yO wV;have aCb:=abf.lt;have fh:=fh.mod kL (λ q I h=>by have Φ:=aRT.1 h;exfalso;(exact A' q I Φ));have fh:=fh.mod zQ (λ q I h=>by have Φ:=aRT.1 h;exfalso;(exact A' q I Φ));have fh:=fh.later wV;refine ap O1 τ.dI fh (aP.gS (R:=ax.rep) (by_:=16) (q:=(⟨((cO a b k).2.x)+(hh (b.x - a.x)),((cO a b k).2.y)+(hh (b.y - a.y))⟩:ax)) abf ⟨Z,⟨bM.2 (by (try dsimp only);omega),bM.2 (by (try dsimp only);omega)⟩⟩ (by decide)) Z Z (by simp only [aR0,aR6];omega) (by simp only [aR0,aR6];omega) Tr.size Z λ JC anX aqM sq ack auX aN3=> ?_;have:=sq.size;have sM:=Ext.mod Tr sq (λ q I=>(fh.lt q I).1);have Cg:=λ q I=>(ack.lt q I).2;have:=sq.size;refine va Z<|nl<|bY<|aU<|rg<|J (bad Z Z (bD (by omega)))<|vm Z<|nl<| ?_;have aZ:cO a b (k+1)=((((cO a b k).1)+(2 * (cn (b.x - a.x)))) - (2 * (cn (b.y - a.y))),⟨((cO a b k).2.x)+(hh (b.x - a.x)),((cO a b k).2.y)+(hh (b.y - a.y))⟩):=by
          show qe a b (cO a b k)=_;unfold qe;simp only [iz,L8,LQ,FP,aTG,aTm,aVM,aVL,aVt,aUT,aSG,aUN,aUE,aTX,aUI]
        have bh:=R3 a b k;rw [aZ] at bh;have cF:(tG a b (k+1)).length=k+2:=Gv a b (k+1);have fZ:=fZ.later wV;have fZ:=fZ.mod sq (λ I=>A' _ I rfl);exact c9 _ _ ⟨k+1,anX,aqM,Z,Z,sM,(by rw [aZ];exact fZ),(by rw [bh];exact ack),by omega,(λ q I Φ=>by (exact aR9 (auX q I) (λ ai0=>by (exact A' q ai0 Φ)) (λ ai0=>by omega)))⟩ (by omega) (.cons Z (.cons Z (.cons Z (.cons Z (.cons Z (.cons Z (.cons Z (.cons Z (.cons Z (.cons (by rw [bh];rfl) (.cons (wq Z (by rw [aZ])) (.cons Z (.cons (bW Z) .nil)))))))))))))
      · rw [iz] at Φ
        have FP:decide (cn (b.y - a.y)≤((cO a b k).1)+(2 * (cn (b.x - a.x))))=false:=by exact aSF LA
        refine bu<|aA<|aj<|vm Z<|vm Z<|J (ks Z Z)<|vm Z<|bs Z Z Z Z (λ hc=>aK Z) Z<|J (fB Z Z Z Z)<|ai<| ?_;have avW:((decide (cn (b.y - a.y)≤cn (b.x - a.x))) || (decide (cn (b.y - a.y)≤((cO a b k).1)+(2 * (cn (b.x - a.x))))))=false:=by simp only [aSJ,aSD];omega
        refine gZ (by rw [← avW];rfl)<|bu<|aA<|aj<|vm Z<|vm Z<|J (iJ Z Z)<|vm Z<|bs Z Z Z Z (λ hc=>aK Z) Z<|J (fB Z Z Z Z)<|ai<| ?_;have WM:((decide (cn (b.x - a.x)<cn (b.y - a.y))) || (decide (cn (b.y - a.y)≤((cO a b k).1)+(2 * (cn (b.x - a.x))))))=true:=by simp only [aSL,aSq];omega
        refine fi (by rw [← WM];rfl)<|rg<|J (av jf Z)<|J (ao Z (fZ.one bc Z))<|vm Z<|J (bad Z Z (bD (by omega)))<|J (av jf Z)<|st (new:= [.int .i64 ((cO a b k).2.x), .int .i64 (((cO a b k).2.y)+(hh (b.y - a.y)))]) Z Z fZ Z dx Z Z Z λ GM zS fZ=> ?_;have:=zS.size;have yR:=Ext.mod j_ zS bt;refine ai<|rg<|vm Z<|J (ao Z (fZ.all cm bU))<|cX (e:= 55) (cs:= [.int .i64 ((cO a b k).2.x), .int .i64 (((cO a b k).2.y)+(hh (b.y - a.y)))]) Z (λ _=>by kernel_rfl) Z λ S6 aIN h_ aMT abj=> ?_;have:=h_.size;have sP:=γ yR h_;have aPt:=abj.lt;have fh:=fh.mod zS (λ q I h=>by have Φ:=aRT.1 h;exfalso;(exact A' q I Φ));have fh:=fh.later h_;refine ap O1 τ.dI fh (aP.gS (R:=ax.rep) (by_:=16) (q:=(⟨(cO a b k).2.x,((cO a b k).2.y)+(hh (b.y - a.y))⟩:ax)) abj ⟨Z,⟨bM.2 (by (try dsimp only);omega),bM.2 (by (try dsimp only);omega)⟩⟩ (by decide)) Z Z (by simp only [aR0,aR6];omega) (by simp only [aR0,aR6];omega) sP.size Z λ S8 anZ aqP tB aco auZ aN7=> ?_;have:=tB.size;have Ax:=Ext.mod sP tB (λ q I=>(fh.lt q I).1);have aQL:=λ q I=>(aco.lt q I).2;have:=tB.size;refine va Z<|nl<|bY<|aU<|rg<|J (bad Z Z (bD (by omega)))<|vm Z<|nl<| ?_;have aZ:cO a b (k+1)=(((cO a b k).1)+(2 * (cn (b.x - a.x))),⟨(cO a b k).2.x,((cO a b k).2.y)+(hh (b.y - a.y))⟩):=by
          show qe a b (cO a b k)=_;unfold qe;simp only [iz,L8,LQ,FP,aTG,aTm,aVM,aVL,aVt,aUT,aSG,aUN,aUE,aTX,aUI]
        have bh:=R3 a b k;rw [aZ] at bh;have cF:(tG a b (k+1)).length=k+2:=Gv a b (k+1);have fZ:=fZ.later h_;have fZ:=fZ.mod tB (λ I=>A' _ I rfl);exact c9 _ _ ⟨k+1,anZ,aqP,Z,Z,Ax,(by rw [aZ];exact fZ),(by rw [bh];exact aco),by omega,(λ q I Φ=>by (exact aR9 (auZ q I) (λ ai9=>by (exact A' q ai9 Φ)) (λ ai9=>by omega)))⟩ (by omega) (.cons Z (.cons Z (.cons Z (.cons Z (.cons Z (.cons Z (.cons Z (.cons Z (.cons Z (.cons (by rw [bh];rfl) (.cons (wq Z (by rw [aZ])) (.cons Z (.cons (bW Z) .nil)))))))))))))
    · refine dw<|du<|dN<|dt<|aU<|aj<|vm rfl<|va rfl<|va rfl<|ai<|rt<|bd (.tmp rfl (.tmp rfl .nil))<| ?_
      have qa:k=(a_ a b).toNat:=by omega
      subst qa;exact ⟨kp,co,Z,fh,j_⟩
  · have qZ:=jF (b.x - a.x)
    have pd:=jF (b.y - a.y);have iz:a_ a b=cn (b.x - a.x):=by unfold a_;omega
    have L8:wF a b=cn (b.y - a.y):=by unfold wF;omega
    have LQ:decide (cn (b.x - a.x)<cn (b.y - a.y))=false:=by exact aSF Dr
    refine bu<|aj<| ?_;have aa:=aa.later hj;refine J (ao Z (aa.all cm bU))<|cX (e:= 55) (cs:= [.int .i64 a.x, .int .i64 a.y]) Z (λ _=>by kernel_rfl) Z λ aac UE mB aL6 aaV=> ?_;have:=mB.size;have CD:=γ jH mB;have ak0:=aaV.lt;refine va Z<|ai<|aj<|va Z<|ai<|aA<|aj<|vm Z<|vm Z<|ai<|bL<| ?_;have aa:=aa.later mB;have RA:∀ q∈τ.ah (some ⟨UE,0,none⟩),UE≤q:=λ q I=>aTy (aRT.1 I).symm;refine eL (λ cg cf aQ=>∃ k:Nat,∃ kp:Option Addr,∃ co:Nat,cf= [(2, .pointer (some ⟨bF,0,none⟩)),(4, .slice none 0 0),(5, .int .i64 0),(6, .int .i64 (hh (b.x - a.x))),(7, .int .i64 (cn (b.x - a.x))),(8, .int .i64 (hh (b.y - a.y))),(9, .int .i64 (cn (b.y - a.y))),(10, .int .i64 (cn (b.x - a.x))),(11, .int .i64 (cn (b.y - a.y))),(12, .slice kp ((tG a b k).length) co),(13, .int .i64 ((cO a b k).1)),(50, .int .i64 (cn (b.x - a.x))),(51, .int .i64 (k:Int))]∧cg=(cn (b.x - a.x)).toNat - k∧Ext w aQ∧aP aQ bF [.int .i64 ((cO a b k).2.x), .int .i64 ((cO a b k).2.y)] 55 (0,0)∧ax.rep.aF 55 16 aQ w.heap.size (τ.ah kp) kp co (tG a b k)∧((k:Int)≤cn (b.x - a.x))∧(∀ q∈τ.ah kp,q=bF→False)) _ _ ⟨0,some ⟨UE,0,none⟩,1,Z,Z,CD,aa,(aP.wI (R:=ax.rep) (by_:=16) (B:=w.heap.size) (k:= [a]) aaV [[.int .i64 a.x, .int .i64 a.y]] Z ⟨⟨Z,bM.2 (by omega),bM.2 (by omega)⟩,trivial⟩ (by simp) (by simp) (by decide) (by omega)),(by have:=jF (b.y - a.y);have:=jF (b.x - a.x);omega),(λ q I Φ=>by (have:=RA q I;omega))⟩ (.cons Z (.cons Z (.cons Z (.cons Z (.cons Z (.cons Z (.cons Z (.cons Z (.cons Z (.cons Z (.cons (bW Z) (.cons Z (.cons (bW Z) .nil))))))))))))) ?_;rintro aNk aG5 Z1 ⟨k,kp,co,rfl,rfl,EG,fZ,fh,ar,Fu⟩;have:=EG.size;have aBU:=fZ.lt;have aEa:=λ q I=>(fh.lt q I).2;have Φ:=ajR a b k;have hp:=ajS a b k;have fp:=Jf (b.x - a.x);have gI:=Jf (b.y - a.y);have qZ:=jF (b.x - a.x);have pd:=jF (b.y - a.y);have oB:=Gv a b k;refine aj<|J (blt Z Z)<|ai<|aA<| ?_;refine dY Z (λ Wy=> ?_) (λ Wy=> ?_)
    · refine bu<|aA<|bL<|aj<|vm rfl<|vm rfl<|J (C8 rfl rfl (bD (by omega)))<|J (bad rfl rfl (bD (by omega)))<|va rfl<|ai<|aj<|vm rfl<|vm rfl<|J (ks rfl rfl)<|va rfl<|ai<|aA<|aj<| ?_
      refine vm Z<|ai<| ?_;refine HG Z (λ Wz=> ?_) (λ Wz=> ?_)
      · rw [iz] at Φ
        have FP:decide (cn (b.x - a.x)≤((cO a b k).1)+(2 * (cn (b.y - a.y))))=true:=by exact aSw Wz
        refine rg<|vm Z<|vm Z<|J (C8 Z Z (bD (by omega)))<|J (mJ Z Z (bD (by omega)))<|va Z<|ai<|aA<|aj<|vm Z<|vm Z<|J (ks Z Z)<|vm Z<|bs Z Z Z Z (λ hc=>aK Z) Z<|J (fB Z Z Z Z)<|ai<| ?_;have avB:((decide (cn (b.y - a.y)≤cn (b.x - a.x))) || (decide (cn (b.x - a.x)≤((cO a b k).1)+(2 * (cn (b.y - a.y))))))=true:=by simp only [aSL,aSq];omega
        refine fi (by rw [← avB];rfl)<|rg<|J (av je Z)<|J (ao Z (fZ.one bc Z))<|vm Z<|J (bad Z Z (bD (by omega)))<|J (av je Z)<|st (new:= [.int .i64 (((cO a b k).2.x)+(hh (b.x - a.x))), .int .i64 ((cO a b k).2.y)]) Z Z fZ Z dx Z Z Z λ Z2 oE fZ=> ?_;have:=oE.size;have G3:=Ext.mod EG oE bt;refine ai<|aA<|aj<|vm Z<|vm Z<|J (iJ Z Z)<|vm Z<|bs Z Z Z Z (λ hc=>aK Z) Z<|J (fB Z Z Z Z)<|ai<| ?_;have avC:((decide (cn (b.x - a.x)<cn (b.y - a.y))) || (decide (cn (b.x - a.x)≤((cO a b k).1)+(2 * (cn (b.y - a.y))))))=true:=by simp only [aSL,aSq];omega
        refine fi (by rw [← avC];rfl)<|rg<|J (av jf Z)<|J (ao Z (fZ.one bc Z))<|vm Z<|J (bad Z Z (bD (by omega)))<|J (av jf Z)<|st (new:= [.int .i64 (((cO a b k).2.x)+(hh (b.x - a.x))), .int .i64 (((cO a b k).2.y)+(hh (b.y - a.y)))]) Z Z fZ Z dx Z Z Z λ aQX Yn fZ=> ?_;have:=Yn.size;have aFV:=Ext.mod G3 Yn bt;refine ai<|rg<|vm Z<|J (ao Z (fZ.all cm bU))<|cX (e:= 55) (cs:= [.int .i64 (((cO a b k).2.x)+(hh (b.x - a.x))), .int .i64 (((cO a b k).2.y)+(hh (b.y - a.y)))]) Z (λ _=>by kernel_rfl) Z λ aEY aIg Tk aMf aa0=> ?_;have:=Tk.size;have Tp:=γ aFV Tk;have aOH:=aa0.lt;have fh:=fh.mod oE (λ q I h=>by have Φ:=aRT.1 h;exfalso;(exact Fu q I Φ));have fh:=fh.mod Yn (λ q I h=>by have Φ:=aRT.1 h;exfalso;(exact Fu q I Φ));have fh:=fh.later Tk;refine ap O1 τ.dI fh (aP.gS (R:=ax.rep) (by_:=16) (q:=(⟨((cO a b k).2.x)+(hh (b.x - a.x)),((cO a b k).2.y)+(hh (b.y - a.y))⟩:ax)) aa0 ⟨Z,⟨bM.2 (by (try dsimp only);omega),bM.2 (by (try dsimp only);omega)⟩⟩ (by decide)) Z Z (by simp only [aR0,aR6];omega) (by simp only [aR0,aR6];omega) Tp.size Z λ amM anN aqD zL ab9 auU aNI=> ?_;have:=zL.size;have Oa:=Ext.mod Tp zL (λ q I=>(fh.lt q I).1);have amr:=λ q I=>(ab9.lt q I).2;have:=zL.size;refine va Z<|nl<|bY<|aU<|rg<|J (bad Z Z (bD (by omega)))<|vm Z<|nl<| ?_;have aZ:cO a b (k+1)=((((cO a b k).1)+(2 * (cn (b.y - a.y)))) - (2 * (cn (b.x - a.x))),⟨((cO a b k).2.x)+(hh (b.x - a.x)),((cO a b k).2.y)+(hh (b.y - a.y))⟩):=by
          show qe a b (cO a b k)=_;unfold qe;simp only [iz,L8,LQ,FP,aTG,aTm,aVM,aVL,aVt,aUT,aSG,aUN,aUE,aTX,aUI]
        have bh:=R3 a b k;rw [aZ] at bh;have cF:(tG a b (k+1)).length=k+2:=Gv a b (k+1);have fZ:=fZ.later Tk;have fZ:=fZ.mod zL (λ I=>Fu _ I rfl);exact c9 _ _ ⟨k+1,anN,aqD,Z,Z,Oa,(by rw [aZ];exact fZ),(by rw [bh];exact ab9),by omega,(λ q I Φ=>by (exact aR9 (auU q I) (λ ah4=>by (exact Fu q ah4 Φ)) (λ ah4=>by omega)))⟩ (by omega) (.cons Z (.cons Z (.cons Z (.cons Z (.cons Z (.cons Z (.cons Z (.cons Z (.cons Z (.cons (by rw [bh];rfl) (.cons (wq Z (by rw [aZ])) (.cons Z (.cons (bW Z) .nil)))))))))))))
      · rw [iz] at Φ
        have FP:decide (cn (b.x - a.x)≤((cO a b k).1)+(2 * (cn (b.y - a.y))))=false:=by exact aSF Wz
        refine bu<|aA<|aj<|vm Z<|vm Z<|J (ks Z Z)<|vm Z<|bs Z Z Z Z (λ hc=>aK Z) Z<|J (fB Z Z Z Z)<|ai<| ?_;have avI:((decide (cn (b.y - a.y)≤cn (b.x - a.x))) || (decide (cn (b.x - a.x)≤((cO a b k).1)+(2 * (cn (b.y - a.y))))))=true:=by simp only [aSL,aSq];omega
        refine fi (by rw [← avI];rfl)<|rg<|J (av je Z)<|J (ao Z (fZ.one bc Z))<|vm Z<|J (bad Z Z (bD (by omega)))<|J (av je Z)<|st (new:= [.int .i64 (((cO a b k).2.x)+(hh (b.x - a.x))), .int .i64 ((cO a b k).2.y)]) Z Z fZ Z dx Z Z Z λ aE2 zM fZ=> ?_;have:=zM.size;have aat:=Ext.mod EG zM bt;refine ai<|aA<|aj<|vm Z<|vm Z<|J (iJ Z Z)<|vm Z<|bs Z Z Z Z (λ hc=>aK Z) Z<|J (fB Z Z Z Z)<|ai<| ?_;have avJ:((decide (cn (b.x - a.x)<cn (b.y - a.y))) || (decide (cn (b.x - a.x)≤((cO a b k).1)+(2 * (cn (b.y - a.y))))))=false:=by simp only [aSJ,aSD];omega
        refine gZ (by rw [← avJ];rfl)<|bu<|rg<|vm Z<|J (ao Z (fZ.all cm bU))<|cX (e:= 55) (cs:= [.int .i64 (((cO a b k).2.x)+(hh (b.x - a.x))), .int .i64 ((cO a b k).2.y)]) Z (λ _=>by kernel_rfl) Z λ Z5 aIn wU aMm aa5=> ?_;have:=wU.size;have EH:=γ aat wU;have aOQ:=aa5.lt;have fh:=fh.mod zM (λ q I h=>by have Φ:=aRT.1 h;exfalso;(exact Fu q I Φ));have fh:=fh.later wU;refine ap O1 τ.dI fh (aP.gS (R:=ax.rep) (by_:=16) (q:=(⟨((cO a b k).2.x)+(hh (b.x - a.x)),(cO a b k).2.y⟩:ax)) aa5 ⟨Z,⟨bM.2 (by (try dsimp only);omega),bM.2 (by (try dsimp only);omega)⟩⟩ (by decide)) Z Z (by simp only [aR0,aR6];omega) (by simp only [aR0,aR6];omega) EH.size Z λ aRb anP aqF RJ acb auV aNN=> ?_;have:=RJ.size;have aF8:=Ext.mod EH RJ (λ q I=>(fh.lt q I).1);have aQk:=λ q I=>(acb.lt q I).2;have:=RJ.size;refine va Z<|nl<|bY<|aU<|rg<|J (bad Z Z (bD (by omega)))<|vm Z<|nl<| ?_;have aZ:cO a b (k+1)=(((cO a b k).1)+(2 * (cn (b.y - a.y))),⟨((cO a b k).2.x)+(hh (b.x - a.x)),(cO a b k).2.y⟩):=by
          show qe a b (cO a b k)=_;unfold qe;simp only [iz,L8,LQ,FP,aTG,aTm,aVM,aVL,aVt,aUT,aSG,aUN,aUE,aTX,aUI]
        have bh:=R3 a b k;rw [aZ] at bh;have cF:(tG a b (k+1)).length=k+2:=Gv a b (k+1);have fZ:=fZ.later wU;have fZ:=fZ.mod RJ (λ I=>Fu _ I rfl);exact c9 _ _ ⟨k+1,anP,aqF,Z,Z,aF8,(by rw [aZ];exact fZ),(by rw [bh];exact acb),by omega,(λ q I Φ=>by (exact aR9 (auV q I) (λ aia=>by (exact Fu q aia Φ)) (λ aia=>by omega)))⟩ (by omega) (.cons Z (.cons Z (.cons Z (.cons Z (.cons Z (.cons Z (.cons Z (.cons Z (.cons Z (.cons (by rw [bh];rfl) (.cons (wq Z (by rw [aZ])) (.cons Z (.cons (bW Z) .nil)))))))))))))
    · refine dw<|du<|dN<|dt<|aU<|aj<|vm rfl<|va rfl<|va rfl<|ai<|rt<|bd (.tmp rfl (.tmp rfl .nil))<| ?_
      have qa:k=(a_ a b).toNat:=by omega
      subst qa;exact ⟨kp,co,Z,fh,EG⟩
end
section
def uv (p:Int):Int:=if p=0∨p=3 then 2 else if p=2 then 3 else 0
def vM (p:Int):Int:=if p=0∨p=3 then 0 else if p=2 then 0 else if p=1 then 9 else 1
def dW (c:ax):List ax:= [⟨c.x,c.y - 1⟩,⟨c.x - 1,c.y⟩,⟨c.x+1,c.y⟩,⟨c.x,c.y+1⟩]
namespace aE
section
variable {f:aE} {c d x y b:ax} {l a_:List Int} {v:Int}
def gJ (f:aE) (c:ax):Int:=if f.place c=2 then 3 else 2
def cS (f:aE) (c:ax):List ax:=(dW c).filter f.ground
def at_ (f:aE) (c:ax):Nat:=(c.y * f.wide+c.x).toNat
def aB (f:aE) (a_:List Int) (c:ax):Int:=if f.fq c then a_.getD (f.at_ c) (-1) else -1
def k4 (b c:ax):Int:=2 * (cn (b.x - c.x)+cn (b.y - c.y))
theorem Dn (h:f.ground c=true):f.place c≠1:=by unfold ground at h;rw [aR2] at h;simpa using h.2
theorem afI (h:f.fq c=true) (ab:f.place c≠1):f.ground c=true:=by unfold ground;rw [h];simpa using ab
theorem qd:2≤f.gJ c∧f.gJ c≤3:=by unfold gJ;split<;>omega
theorem M9:y∈f.cS x↔y∈dW x∧f.ground y=true:=by unfold cS;rw [aTg]
theorem Yy:y∈dW x↔(y=⟨x.x,x.y - 1⟩∨y=⟨x.x - 1,x.y⟩∨y=⟨x.x+1,x.y⟩∨y=⟨x.x,x.y+1⟩):=by unfold dW;simp
theorem Zu (h:y∈dW x):x∈dW y:=by
 rw [Yy] at h ⊢;obtain ⟨a,b⟩:=x;rcases h with rfl | rfl | rfl | rfl
 ·right;right;right;simp
 ·right;right;left;simp
 ·right;left;simp
 ·left;simp
theorem aC1 (h:y∈dW x):y≠x:=by
 rw [Yy] at h;obtain ⟨a,b⟩:=x;rcases h with rfl | rfl | rfl | rfl<;>simp<;>omega
theorem VL (b:ax) (h:y∈dW x):k4 b x≤2+k4 b y:=by
 rw [Yy] at h;obtain ⟨fY,fb⟩:=x;have e:∀ n:Int,cn n≤1+cn (n+1)∧cn n≤1+cn (n - 1):=λ n=>by
  have κ:=jF n;have ab:=jF (n+1);have aw:=jF (n - 1);rcases (show n<0∨0≤n by omega) with hn | hn
  ·have:=κ.2.2.2 hn;rcases (show n+1<0∨0≤n+1 by omega) with hm | hm
   ·have:=ab.2.2.2 hm;have:=aw.2.2.2 (by omega);omega
   ·have:=ab.2.2.1 hm;have:=aw.2.2.2 (by omega);omega
  ·have:=κ.2.2.1 hn;have:=ab.2.2.1 (by omega);rcases (show n - 1<0∨0≤n - 1 by omega) with hm | hm
   ·have:=aw.2.2.2 hm;omega
   ·have:=aw.2.2.1 hm;omega
 unfold k4;rcases h with rfl | rfl | rfl | rfl<;>dsimp only
 ·have:=(e (b.y - fb)).1;rw [show b.y - (fb - 1)=b.y - fb+1 by omega];omega
 ·have:=(e (b.x - fY)).1;rw [show b.x - (fY - 1)=b.x - fY+1 by omega];omega
 ·have:=(e (b.x - fY)).2;rw [show b.x - (fY+1)=b.x - fY - 1 by omega];omega
 ·have:=(e (b.y - fb)).2;rw [show b.y - (fb+1)=b.y - fb - 1 by omega];omega
theorem afb (b c:ax):0≤k4 b c:=by have:=jF (b.x - c.x);have:=jF (b.y - c.y);unfold k4;omega
theorem VK (b:ax):k4 b b=0:=by unfold k4;rw [aVI,aVI];rfl
theorem RY (f:aE) (b:ax):qK.jw f.cS f.gJ (k4 b):=⟨λ x y _=>by have:=f.qd (c:=y);omega,afb b,λ x y aI=>by
 have:=VL b (M9.1 aI).1;have:=f.qd (c:=y);omega⟩
theorem YO (f:aE):qK.jw f.cS f.gJ (λ _=>0):=⟨λ x y _=>by have:=f.qd (c:=y);omega,λ _=>aTk 0,λ x y aI=>by have:=f.qd (c:=y);omega⟩
theorem acK (hf:f.bm=0) (hc:f.fq c=true) (hd:f.fq d=true) (h:f.at_ c=f.at_ d):c=d:=by
 obtain ⟨a0,ck,a2,a3,a4,a5⟩:=idx hf hc;obtain ⟨Ux,nH,f_,gR,zg,Fm⟩:=idx hf hd;unfold at_ at h;have e:c.y * f.wide+c.x=d.y * f.wide+d.x:=by omega
 have aZ:(c.y * f.wide+c.x) % f.wide=c.x:=by rw [aVK,aUG,aVJ a2 a3]
 have bh:(d.y * f.wide+d.x) % f.wide=d.x:=by rw [aVK,aUG,aVJ f_ gR]
 have ex:c.x=d.x:=by rw [← aZ,← bh,e]
 have Qj:c.y * f.wide=d.y * f.wide:=by omega
 have Qj:c.y=d.y:=Int.eq_of_mul_eq_mul_right (by omega) Qj;cases c;cases d;simp at ex Qj;rw [ex,Qj]
theorem zf (hf:f.bm=0) (hc:f.fq c=true):f.at_ c<f.aW.length∧((f.at_ c:Nat):Int)=c.y * f.wide+c.x:=by
 obtain ⟨a0,ck,_⟩:=idx hf hc;unfold at_;omega
theorem H2 (hc:f.fq c=true):f.aB a_ c=a_.getD (f.at_ c) (-1):=by unfold aB;rw [aR8 hc]
theorem V0 (hc:f.fq c=false):f.aB a_ c= -1:=by unfold aB;rw [aR5 (by rw [hc];decide)]
theorem Qs (hf:f.bm=0) (ay:a_.length=f.aW.length) (hc:f.fq c=true):f.aB (a_.set (f.at_ c) v) c=v:=by
 rw [H2 hc,aRU,aSl (by rw [ay];exact (zf hf hc).1)];rfl
theorem Qt (hf:f.bm=0) (hc:f.fq c=true) (fl:d≠c):f.aB (a_.set (f.at_ c) v) d=f.aB a_ d:=by
 cases hd:f.fq d with
 | false=>rw [V0 hd,V0 hd]
 | true=>rw [H2 hd,H2 hd,aRU,aRU,aSp (λ e=>fl (acK hf hd hc e.symm))]
end
end aE
def und:List Int→Nat
 | []=>0
 | x::r=>(if x<0 then 1 else 0)+und r
theorem amz:∀ l:List Int,und l≤l.length
 | []=>aR7 _
 | x::r=>by have:=amz r;rw [und,aR0];split<;>omega
theorem amA {v:Int} (hv:0≤v):∀ (l:List Int) (i:Nat),i<l.length→l.getD i (-1)<0→und (l.set i v)+1=und l
 | [],i,h,_=>by simp at h
 | x::r,0,_,h=>by
  have h:x<0:=h;rw [aTT,und,und,aR5 (by omega),aR8 h];omega
 | x::r,i+1,h,ab=>by
  have:=amA hv r i (by simpa using h) (by simpa using ab);rw [aTD,und,und];omega
theorem ZV {n:Nat}:und (List.replicate n (-1))=n:=by
 induction n with
 | zero=>rfl
 | succ n bx=>rw [aWE,und,bx];simp;omega
structure jb {β:Type} [Inhabited β] (gG:β→ax) (av jA:β→Int) (f:aE) (h:ax→Int) (src:ax→Prop) (a_:List Int) (l:List β) (df:ax) (rest:List ax):Prop where
 len:a_.length=f.aW.length
 inv:qK.Inv f.cS f.gJ h src (f.aB a_) (l.map λ n=>(gG n,av n)) df rest
 hp:cr.Heap jA l.length l
 all:∀ n∈l,jA n=av n+h (gG n)∧f.ground (gG n)=true
 cI:∀ c,f.aB a_ c+3 * (und a_:Int)≤3 * (f.aW.length:Int)
 gr:∀ c,0≤f.aB a_ c→f.ground c=true
section
variable {β:Type} [Inhabited β] {gG:β→ax} {av jA:β→Int} {f:aE} {h:ax→Int} {src:ax→Prop} {a_:List Int} {l:List β} {df y:ax} {rest:List ax} {n:β} {j:Nat}
theorem jb.afc (s:jb gG av jA f h src a_ l df rest) (o:qK.jw f.cS f.gJ h) (hn:n∈l):0≤av n∧av n+3 * (und a_:Int)≤3 * (f.aW.length:Int)+3:=by
 have hm:(gG n,av n)∈l.map λ n=>(gG n,av n):=aSt.2 ⟨n,hn,rfl⟩;have hr:=s.inv.alf hm;refine ⟨hr.q8 o, ?_⟩;have hu:=amz a_;have:=s.len;rcases s.inv.q _ hm with ⟨_,ab⟩ | ⟨p,κ,ab,aw⟩
 ·have ab:av n=0:=ab;omega
 ·have aw:av n=f.aB a_ p+f.gJ (gG n):=aw;have:=s.cI p;have:=f.qd (c:=gG n);omega
theorem jb.akG (aG:0<l.length):(l.map λ n=>(gG n,av n)).Perm ((gG (l.getD 0 default),av (l.getD 0 default))::(cr.oK jA l).map λ n=>(gG n,av n)):=
 ((cr.akP (key:=jA) aG).symm.map _)
theorem jb.least (s:jb gG av jA f h src a_ l df rest) (aG:0<l.length):∀ e∈l.map λ n=>(gG n,av n),av (l.getD 0 default)+h (gG (l.getD 0 default))≤e.2+h e.1:=by
 intro e he;obtain ⟨n,hn,rfl⟩:=aSt.1 he;have κ:=s.hp.least n hn;rw [(s.all n hn).1,(s.all _ (jC aG)).1] at κ;exact κ
theorem jb.sub (aG:0<l.length) (hn:n∈cr.oK jA l):n∈l:=(cr.akP (key:=jA) aG).subset (aSa _ hn)
theorem jb.aC3 (s:jb gG av jA f h src a_ l df []) (aG:0<l.length) (hd:0≤f.aB a_ (gG (l.getD 0 default))):jb gG av jA f h src a_ (cr.oK jA l) df [] :=
 ⟨s.len,s.inv.aBz (jb.akG aG) hd,cr.akO s.hp aG,λ n hn=>s.all n (jb.sub aG hn),s.cI,s.gr⟩
theorem jb.new (s:jb gG av jA f h src a_ l df []) (hf:f.bm=0) (o:qK.jw f.cS f.gJ h) (aG:0<l.length) (hd:f.aB a_ (gG (l.getD 0 default))<0):
  jb gG av jA f h src (a_.set (f.at_ (gG (l.getD 0 default))) (av (l.getD 0 default))) (cr.oK jA l) (gG (l.getD 0 default)) (f.cS (gG (l.getD 0 default)))∧und (a_.set (f.at_ (gG (l.getD 0 default))) (av (l.getD 0 default)))+1=und a_:=by
 have aO:=(s.all _ (jC aG (d:=default))).2;have aq:=aE.ky aO;have Φ:=s.afc o (jC aG (d:=default));have hu:und (a_.set (f.at_ (gG (l.getD 0 default))) (av (l.getD 0 default)))+1=und a_:=amA Φ.1 a_ _ (by rw [s.len];exact (aE.zf hf aq).1) (by rw [aE.H2 aq] at hd;exact hd);refine ⟨⟨by rw [aR4];exact s.len,(s.inv.aBy o (jb.akG aG) hd (s.least aG) (aE.Qs hf s.len aq) (λ z bC=>aE.Qt hf aq bC)).1,cr.akO s.hp aG,λ n hn=>s.all n (jb.sub aG hn),λ c=> ?_,λ c hc=> ?_⟩,hu⟩
 ·by_cases e:c=gG (l.getD 0 default)
  ·rw [e,aE.Qs hf s.len aq];omega
  ·rw [aE.Qt hf aq e];have:=s.cI c;omega
 ·by_cases e:c=gG (l.getD 0 default)
  ·rw [e];exact aO
  ·rw [aE.Qt hf aq e] at hc;exact s.gr c hc
theorem jb.push (s:jb gG av jA f h src a_ l df (y::rest)) (o:qK.jw f.cS f.gJ h) (aO:f.ground y=true) (κ:gG n=y) (ab:av n=f.aB a_ df+f.gJ y) (aw:jA n=av n+h y):jb gG av jA f h src a_ (cr.push jA l n) df rest:=by
 refine ⟨s.len,s.inv.push o ?_,cr.aBO s.hp,λ m hm=> ?_,s.cI,s.gr⟩
 ·have:=(cr.akV (key:=jA) (l:=l) (x:=n)).map λ n=>(gG n,av n);rw [aSB,κ,ab] at this;exact this
 ·rcases aSh.1 ((cr.akV (key:=jA)).subset hm) with rfl | hm
  ·rw [κ];exact ⟨aw,aO⟩
  ·exact s.all m hm
theorem jb.pass (s:jb gG av jA f h src a_ l df (y::rest)) (aI:0≤f.aB a_ y):jb gG av jA f h src a_ l df rest:=⟨s.len,s.inv.skip aI,s.hp,s.all,s.cI,s.gr⟩
theorem Zt {f:aE} {x:ax} {j:Nat} (az:j<4):((dW x).drop j).filter f.ground=if f.ground ((dW x).getD j default) then (dW x).getD j default::((dW x).drop (j+1)).filter f.ground else ((dW x).drop (j+1)).filter f.ground:=by
 have ay:(dW x).length=4:=rfl;rw [aTL (by omega),aS4,mK (by omega)]
theorem jb.azH (s:jb gG av jA f h src a_ l df (((dW df).drop j).filter f.ground)) (az:j<4) (aO:f.ground ((dW df).getD j default)=false):jb gG av jA f h src a_ l df (((dW df).drop (j+1)).filter f.ground):=by
 rw [Zt az,aR5 (by rw [aO];decide)] at s;exact s
theorem jb.azF (s:jb gG av jA f h src a_ l df (((dW df).drop j).filter f.ground)) (az:j<4) (aI:0≤f.aB a_ ((dW df).getD j default)) (aO:f.ground ((dW df).getD j default)=true):jb gG av jA f h src a_ l df (((dW df).drop (j+1)).filter f.ground):=by
 rw [Zt az,aR8 aO] at s;exact s.pass aI
theorem jb.azG (s:jb gG av jA f h src a_ l df (((dW df).drop j).filter f.ground)) (o:qK.jw f.cS f.gJ h) (az:j<4) (aO:f.ground ((dW df).getD j default)=true) (κ:gG n=(dW df).getD j default) (ab:av n=f.aB a_ df+f.gJ ((dW df).getD j default)) (aw:jA n=av n+h ((dW df).getD j default)):
  jb gG av jA f h src a_ (cr.push jA l n) df (((dW df).drop (j+1)).filter f.ground):=by
 rw [Zt az,aR8 aO] at s;exact s.push o aO κ ab aw
end
end
section
structure cb where
 cell:ax
 a_:Int
 all:Int
 deriving DecidableEq,Inhabited
namespace cb
def cells (a:cb):List Value:= [.int .i64 (a.cell.x), .int .i64 (a.cell.y), .int .i64 (a.a_), .int .i64 (a.all)]
def ok (a:cb):Prop:=(Lit.int .i64 a.cell.x).wf=true∧(Lit.int .i64 a.cell.y).wf=true∧(Lit.int .i64 a.a_).wf=true∧(Lit.int .i64 a.all).wf=true
def raw (j:Nat) (u:Value):Prop:=match j with
 | 0=>∃ n:Int,u= .int .i64 n
 | 1=>∃ n:Int,u= .int .i64 n
 | 2=>∃ n:Int,u= .int .i64 n
 | 3=>∃ n:Int,u= .int .i64 n
 | _=>True
theorem rL (a:cb):∀ (j:Nat) u,a.cells[j]? =some u→raw j u:=by
 intro j u hu
 match j,hu with
 | 0,hu=>exact ⟨_,(aRV hu).symm⟩
 | 1,hu=>exact ⟨_,(aRV hu).symm⟩
 | 2,hu=>exact ⟨_,(aRV hu).symm⟩
 | 3,hu=>exact ⟨_,(aRV hu).symm⟩
 | j+4,hu=>exact trivial
theorem rK (a:cb):∀ u∈a.cells,u.oneCell'=true:=by
 intro u hu;unfold cells at hu;simp only [aSh,aTn,aT5] at hu;rcases hu with rfl | rfl | rfl | rfl<;>rfl
def rep:τ cb:=τ.flat 4 cells ok raw (λ _=>rfl) rK rL
def zero:Value:= .agg #[.int .i64 0, .int .i64 0, .int .i64 0, .int .i64 0]
theorem jq:∀ (j:Nat) u,zero.cells[j]? =some u→rep.raw j u:=by
 intro j u hu;have hu:(#[(.int .i64 0:Value),(.int .i64 0:Value),(.int .i64 0:Value),(.int .i64 0:Value)]:Array Value)[j]? =some u:=hu
 match j,hu with
 | 0,hu=>exact ⟨_,(aRV hu).symm⟩
 | 1,hu=>exact ⟨_,(aRV hu).symm⟩
 | 2,hu=>exact ⟨_,(aRV hu).symm⟩
 | 3,hu=>exact ⟨_,(aRV hu).symm⟩
 | j+4,hu=>cases hu
theorem info:(prog.info? 304).map (λ i=>(i.zero,i.size,i.bytes))=some (some zero,4,32):=by kernel_rfl
def sh:gQ:=(.cons (.cons (.int .i64) (.cons (.int .i64) .nil)) (.cons (.int .i64) (.cons (.int .i64) .nil)))
end cb
end
section
abbrev sX (f:aE) (a b:ax) (a_:List Int) (l:List cb) (df:ax) (rest:List ax):Prop:=jb cb.cell cb.a_ cb.all f (aE.k4 b) (λ c=>c=a) a_ l df rest
def xr (f:aE) (b:ax) (a_:List Int):Prop:=0≤f.aB a_ b→∀ x,0≤f.aB a_ x→f.aB a_ x+aE.k4 b x≤f.aB a_ b
structure pV (f:aE) (a b:ax) (a_:List Int):Prop where
 len:a_.length=f.aW.length
 spec:qK.Spec f.cS f.gJ (aE.k4 b) (λ c=>c=a) b (f.aB a_)
 cI:∀ c,f.aB a_ c≤3 * (f.aW.length:Int)
 gr:∀ c,0≤f.aB a_ c→f.ground c=true
section
variable {f:aE} {a b df:ax} {a_:List Int} {l:List cb} {bX:cb} {rest:List ax}
theorem aEF (s:sX f a b a_ l df []) (hf:f.bm=0) (aG:0<l.length) (hx:l.getD 0 default=bX) (hd:f.aB a_ bX.cell<0) (hv:xr f b a_) (hc:f.aB a_ b<0∨bX.all≤f.aB a_ b):xr f b (a_.set (f.at_ bX.cell) bX.a_):=by
 have hm:bX∈l:=by rw [← hx];exact jC aG
 obtain ⟨ha,aO⟩:=s.all bX hm;have aq:=aE.ky aO;have κ:=aE.Qs (v:=bX.a_) hf s.len aq;have ab:∀ z,z≠bX.cell→f.aB (a_.set (f.at_ bX.cell) bX.a_) z=f.aB a_ z:=λ z bC=>aE.Qt hf aq bC;have ag6:=λ z bC=>s.inv.mono z bC (bX.cell,bX.a_) (aSt.2 ⟨bX,hm,rfl⟩);dsimp only at ag6;intro Φ z bC;by_cases e:b=bX.cell
 ·have aud:f.aB (a_.set (f.at_ bX.cell) bX.a_) b=bX.a_:=by rw [e];exact κ
  rw [aud];have e0:aE.k4 b bX.cell=0:=by rw [← e];exact aE.VK b
  by_cases K8:z=bX.cell
  ·rw [K8,κ];omega
  ·rw [ab z K8] at bC ⊢;have:=ag6 z bC;omega
 ·rw [ab b e] at Φ ⊢;by_cases K8:z=bX.cell
  ·rw [K8,κ];omega
  ·rw [ab z K8] at bC ⊢;exact hv Φ z bC
theorem akF (s:sX f a b a_ l df []) (hv:xr f b a_) (he:(0≤f.aB a_ b∧∀ e∈l.map λ n=>(n.cell,n.a_),f.aB a_ b<e.2+aE.k4 b e.1)∨(l.map λ n=>(n.cell,n.a_))= []):pV f a b a_ :=
 ⟨s.len,s.inv.ends (aE.RY f b) (aE.VK b) hv he,λ c=>by have:=s.cI c;omega,s.gr⟩
theorem aBj (s:sX f a b a_ l df []) (hv:xr f b a_) (h:l.length=0):pV f a b a_:=akF s hv (.inr (by rw [aSu h];rfl))
theorem aBi (s:sX f a b a_ l df []) (hv:xr f b a_) (aG:0<l.length) (Φ:0≤f.aB a_ b) (h:f.aB a_ b<(l.getD 0 default).all):pV f a b a_ :=
 akF s hv (.inl ⟨Φ,λ e he=>by
  have κ:=s.least aG e he;rw [← (s.all _ (jC aG)).1] at κ;omega⟩)
theorem sX.node (s:sX f a b a_ l df rest) (hf:f.bm=0) (Φ:f.fq b=true) (hn:bX∈l):0≤bX.cell.x∧bX.cell.x<f.wide∧0≤bX.cell.y∧bX.cell.y<f.high∧0≤bX.a_∧bX.a_≤4803∧0≤bX.all∧bX.all≤5000∧bX.ok:=by
 obtain ⟨ha,aO⟩:=s.all bX hn;obtain ⟨_,_,i1,i2,i3,i4⟩:=aE.idx hf (aE.ky aO);obtain ⟨_,_,aLA,XY,aLB,aLC⟩:=aE.idx hf Φ;obtain ⟨g1,g2,g3,g4,g5,g6⟩:=aE.jY hf;obtain ⟨κ,ab⟩:=s.afc (aE.RY f b) hn;have ay:=aE.eE hf;have he:0≤aE.k4 b bX.cell∧aE.k4 b bX.cell≤160:=by
  refine ⟨aE.afb _ _, ?_⟩;unfold aE.k4;have ck:=jF (b.x - bX.cell.x);have a2:=jF (b.y - bX.cell.y);rcases (show b.x - bX.cell.x<0∨0≤b.x - bX.cell.x by omega) with h | h
  ·have:=ck.2.2.2 h;rcases (show b.y - bX.cell.y<0∨0≤b.y - bX.cell.y by omega) with c6 | c6
   ·have:=a2.2.2.2 c6;omega
   ·have:=a2.2.2.1 c6;omega
  ·have:=ck.2.2.1 h;rcases (show b.y - bX.cell.y<0∨0≤b.y - bX.cell.y by omega) with c6 | c6
   ·have:=a2.2.2.2 c6;omega
   ·have:=a2.2.2.1 c6;omega
 refine ⟨i1,i2,i3,i4,κ,by omega,by omega,by omega,bM.2 (by omega),bM.2 (by omega),bM.2 (by omega),bM.2 (by omega)⟩
theorem Bo (hf:f.bm=0) (ay:a_.length=f.aW.length) {c:ax} (hc:f.fq c=true):a_[(c.y * f.wide+c.x).toNat]? =some (f.aB a_ c):=by
 rw [aE.H2 hc];exact c8 (u:= -1) (show f.at_ c<a_.length by rw [ay];exact (aE.zf hf hc).1)
theorem ee (hf:f.bm=0) (ay:a_.length=f.aW.length) {c:ax} (hc:f.fq c=true):(c.y * f.wide+c.x).toNat<a_.length∧0≤c.y * f.wide+c.x∧c.y * f.wide+c.x≤1600:=by
 have κ:=aE.zf hf hc;obtain ⟨a0,ck,_⟩:=aE.idx hf hc;have:=aE.eE hf;unfold aE.at_ at κ;omega
theorem acL (p q:Bool):p=false∨(p=true∧q=true)∨(p=true∧q=false):=by cases p<;>cases q<;>simp
end
end
section
section
variable {f:aE} {a b c:ax} {a_ Qk:List Int} {aB:ax→Int}
noncomputable def cL (f:aE) (a b:ax):ax→Int :=
 @dite _ (∃ a_,pV f a b a_) (Classical.propDecidable _) (λ h=>f.aB h.choose) λ _=>λ _=> -1
theorem pV.Qq (h:pV f a b a_):f.aB a_=cL f a b:=by
 have hex:∃ a_,pV f a b a_:=⟨a_,h⟩;unfold cL;rw [dif_pos hex]
 funext x
 exact h.spec.uniq hex.choose_spec.spec x
theorem pV.get (h:pV f a b a_) (hf:f.bm=0) {c:ax} (hc:f.fq c=true):a_[(c.y * f.wide+c.x).toNat]? =some (cL f a b c):=by rw [← h.Qq];exact Bo hf h.len hc
theorem aBP {β:Type} [Inhabited β] {key:β→Int} {x:β}:cr.push key [] x= [x]:=by
 unfold cr.push cr.qu;rw [aR5 (by simp)];rfl
theorem Qr {n:Nat}:f.aB (List.replicate n (-1)) c= -1:=by
 unfold aE.aB;split
 ·rw [aRU,aS3];split<;>rfl
 ·rfl
theorem sX.start (hf:f.bm=0) (ha:f.ground a=true) (df:ax):sX f a b (List.replicate f.aW.length (-1)) (cr.push cb.all [] ⟨a,0,0+aE.k4 b a⟩) df []:=by
 rw [aBP];refine ⟨aSx,qK.Inv.start (λ x=>Qr) (λ e he=> ?_) (λ s hs=> ?_),λ i aG κ=>by simp at κ;omega,λ n hn=> ?_,λ c=> ?_,λ c hc=>by rw [Qr] at hc;omega⟩
 ·rw [aSB,aTz,aRT] at he;subst he;exact ⟨Z,Z⟩
 ·subst hs;exact aSj
 ·rw [aRT.1 hn];exact ⟨Z,ha⟩
 ·rw [Qr,ZV];omega
theorem xr.start:xr f b (List.replicate f.aW.length (-1)):=λ h=>by rw [Qr] at h;omega
def lW (f:aE) (aB:ax→Int) (c:ax):ax:=((dW c).find? λ n=>f.ground n && decide (0≤aB n) && decide (aB n+f.gJ c=aB c)).getD c
def xw (f:aE) (aB:ax→Int) (a:ax):Nat→ax→List ax
 | 0,c=> [c]
 | n+1,c=>if c=a then [c] else c::xw f aB a n (lW f aB c)
structure oY (f:aE) (a:ax) (aB:ax→Int):Prop where
 zero:aB a=0
 pos:∀ c,0≤aB c→c≠a→∃ p,0≤aB p∧c∈f.cS p∧aB c=aB p+f.gJ c
 gr:∀ c,0≤aB c→f.ground c=true
theorem oY.prev (h:oY f a aB) (hc:0≤aB c) (fl:c≠a):lW f aB c∈dW c∧f.ground (lW f aB c)=true∧0≤aB (lW f aB c)∧aB (lW f aB c)+f.gJ c=aB c:=by
 obtain ⟨p,κ,ab,aw⟩:=h.pos c hc fl;have hp:p∈dW c:=aE.Zu (aE.M9.1 ab).1;have Rc:(f.ground p && decide (0≤aB p) && decide (aB p+f.gJ c=aB c))=true:=by
  rw [h.gr p κ,aSw κ,aSw aw.symm];rfl
 unfold lW;cases hf:(dW c).find? λ n=>f.ground n && decide (0≤aB n) && decide (aB n+f.gJ c=aB c) with
 | none=>exact absurd Rc (aSY.1 hf p hp)
 | some q =>
  have I:=aU5 hf;simp only [aR2,aSq] at I;exact ⟨aTK hf,I.1.1,I.1.2,I.2⟩
theorem oY.fuel (h:oY f a aB):∀ (n:Nat) (c:ax),0≤aB c→(aB c).toNat≤n→xw f aB a n c=xw f aB a (aB c).toNat c:=by
 intro n;induction n using Nat.strongRecOn with
 | ind n bx =>
  intro c hc hn;by_cases fl:c=a
  ·subst fl;have:(aB c).toNat=0:=by rw [h.zero];rfl
   rw [this];cases n with
   | zero=>rfl
   | succ n=>unfold xw;rw [aR8 rfl]
  ·obtain ⟨eM,ft,nh,yl⟩:=h.prev hc fl;have ar:=f.qd (c:=c);obtain ⟨m,hm⟩:∃ m,(aB c).toNat=m+1:=⟨(aB c).toNat - 1,by omega⟩;obtain ⟨kf,axg⟩:∃ kf,n=kf+1:=⟨n - 1,by omega⟩;subst axg;rw [hm,xw,xw,aR5 fl,aR5 fl,bx kf (by omega) _ nh (by omega),bx m (by omega) _ nh (by omega)]
def fS (f:aE) (aB:ax→Int) (a c:ax):List ax:=xw f aB a (aB c).toNat c
theorem Cl (h:oY f a aB):fS f aB a a= [a]:=by unfold fS;rw [h.zero];rfl
theorem Cm (h:oY f a aB) (hc:0≤aB c) (fl:c≠a):fS f aB a c=c::fS f aB a (lW f aB c):=by
 obtain ⟨eM,ft,nh,yl⟩:=h.prev hc fl;have ar:=f.qd (c:=c);unfold fS;obtain ⟨m,hm⟩:∃ m,(aB c).toNat=m+1:=⟨(aB c).toNat - 1,by omega⟩;rw [hm,xw,aR5 fl,h.fuel m _ nh (by omega)]
theorem oY.of (h:pV f a b a_) (Φ:0≤f.aB a_ b):oY f a (f.aB a_):=by
 have bC:0≤f.aB a_ a→f.aB a_ a=0:=λ aG=>by
  have:=(h.spec.o5 a aG).1.2 0 (.start rfl);omega
 have key:∀ n:Nat,∀ c,0≤f.aB a_ c→(f.aB a_ c).toNat=n→0≤f.aB a_ a:=by
  intro n;induction n using Nat.strongRecOn with
  | ind n bx =>
   intro c hc hn;rcases h.spec.pred c hc with ⟨κ,_⟩ | ⟨p,κ,ab,aw⟩
   ·subst κ;exact hc
   ·have:=f.qd (c:=c);exact bx (f.aB a_ p).toNat (by omega) p κ Z
 have ha:=key _ b Φ rfl;refine ⟨bC ha,λ c hc fl=> ?_,h.gr⟩;rcases h.spec.pred c hc with ⟨κ,_⟩ | κ
 ·exact absurd κ fl
 ·exact κ
theorem oY.Gs (h:pV f a b a_) (Φ:0≤cL f a b b):oY f a (cL f a b):=by rw [← h.Qq] at Φ ⊢;exact oY.of h Φ
theorem pV.ap8 (h:pV f a b a_) (c:ax):cL f a b c≤3 * (f.aW.length:Int):=by rw [← h.Qq];exact h.cI c
noncomputable def hq (f:aE) (a b:ax):Int:=if f.dJ a≠0 then f.dJ a else if f.dJ b≠0 then f.dJ b else if f.place a=1∨f.place b=1 then 9 else if cL f a b b<0 then 6 else 0
noncomputable def o_ (f:aE) (a b:ax):Int:=if hq f a b=0 then cL f a b b else 0
noncomputable def fU (f:aE) (a b:ax):List ax:=if hq f a b=0 then (fS f (cL f a b) a b).reverse else []
theorem auk (h:f.dJ a≠0):hq f a b=f.dJ a:=by unfold hq;rw [aR8 h]
theorem aul (h:f.dJ a=0) (ab:f.dJ b≠0):hq f a b=f.dJ b:=by unfold hq;rw [aR5 (by rw [h];simp),aR8 ab]
theorem Pj (h:f.dJ a=0):f.bm=0∧f.fq a=true:=by
 have hc:f.bm=0:=by
  by_cases hc:f.bm=0
  ·exact hc
  ·rw [(aE.Uv hc).1] at h;exact h
 exact ⟨hc,apR hc h⟩
where
 apR {f:aE} {c:ax} (h:f.bm=0) (he:f.dJ c=0):f.fq c=true:=by
  cases aq:f.fq c with
  | true=>rfl
  | false=>rw [(aE.KE h aq).1] at he;omega
theorem aup (h:f.dJ a=0) (ab:f.dJ b=0) (aw:f.place a=1∨f.place b=1):hq f a b=9:=by unfold hq;rw [aR5 (by rw [h];simp),aR5 (by rw [ab];simp),aR8 aw]
theorem aun (hf:f.bm=0) (ha:f.ground a=true) (Φ:f.ground b=true) (h:cL f a b b<0):hq f a b=6:=by
 unfold hq;rw [aR5 (by rw [(aE.m2 hf (aE.ky ha)).1];simp),aR5 (by rw [(aE.m2 hf (aE.ky Φ)).1];simp),aR5 (by rintro (κ | κ);exact aE.Dn ha κ;exact aE.Dn Φ κ),aR8 h]
theorem VR (hf:f.bm=0) (ha:f.ground a=true) (Φ:f.ground b=true) (h:0≤cL f a b b):hq f a b=0:=by
 unfold hq;rw [aR5 (by rw [(aE.m2 hf (aE.ky ha)).1];simp),aR5 (by rw [(aE.m2 hf (aE.ky Φ)).1];simp),aR5 (by rintro (κ | κ);exact aE.Dn ha κ;exact aE.Dn Φ κ),aR5 (by omega)]
theorem VP (f:aE) (a b:ax):(f.dJ a≠0∧hq f a b=f.dJ a)∨(f.dJ a=0∧f.dJ b≠0∧hq f a b=f.dJ b)∨(f.dJ a=0∧f.dJ b=0∧(f.place a=1∨f.place b=1)∧hq f a b=9)∨(f.bm=0∧f.ground a=true∧f.ground b=true∧((cL f a b b<0∧hq f a b=6)∨(0≤cL f a b b∧hq f a b=0))):=by
 by_cases κ:f.dJ a=0
 ·by_cases ab:f.dJ b=0
  ·obtain ⟨hc,Mp⟩:=Pj κ;obtain ⟨_,XS⟩:=Pj ab;by_cases aw:f.place a=1∨f.place b=1
   ·exact .inr (.inr (.inl ⟨κ,ab,aw,aup κ ab aw⟩))
   ·have ga:=aE.afI Mp (λ h=>aw (.inl h));have vX:=aE.afI XS (λ h=>aw (.inr h));refine .inr (.inr (.inr ⟨hc,ga,vX, ?_⟩));by_cases a6:cL f a b b<0
    ·exact .inl ⟨a6,aun hc ga vX a6⟩
    ·exact .inr ⟨by omega,VR hc ga vX (by omega)⟩
  ·exact .inr (.inl ⟨κ,ab,aul κ ab⟩)
 ·exact .inl ⟨κ,auk κ⟩
end
end
section
structure dm where
 id:Int
 bq:ax
 deriving DecidableEq,Inhabited
namespace dm
def cells (a:dm):List Value:= [.int .i64 (a.id), .int .i64 (a.bq.x), .int .i64 (a.bq.y)]
def ok (a:dm):Prop:=(Lit.int .i64 a.id).wf=true∧(Lit.int .i64 a.bq.x).wf=true∧(Lit.int .i64 a.bq.y).wf=true
def raw (j:Nat) (u:Value):Prop:=match j with
 | 0=>∃ n:Int,u= .int .i64 n
 | 1=>∃ n:Int,u= .int .i64 n
 | 2=>∃ n:Int,u= .int .i64 n
 | _=>True
theorem rL (a:dm):∀ (j:Nat) u,a.cells[j]? =some u→raw j u:=by
 intro j u hu
 match j,hu with
 | 0,hu=>exact ⟨_,(aRV hu).symm⟩
 | 1,hu=>exact ⟨_,(aRV hu).symm⟩
 | 2,hu=>exact ⟨_,(aRV hu).symm⟩
 | j+3,hu=>exact trivial
theorem rK (a:dm):∀ u∈a.cells,u.oneCell'=true:=by
 intro u hu;unfold cells at hu;simp only [aSh,aTn,aT5] at hu;rcases hu with rfl | rfl | rfl<;>rfl
def rep:τ dm:=τ.flat 3 cells ok raw (λ _=>rfl) rK rL
def zero:Value:= .agg #[.int .i64 0, .int .i64 0, .int .i64 0]
theorem jq:∀ (j:Nat) u,zero.cells[j]? =some u→rep.raw j u:=by
 intro j u hu;have hu:(#[(.int .i64 0:Value),(.int .i64 0:Value),(.int .i64 0:Value)]:Array Value)[j]? =some u:=hu
 match j,hu with
 | 0,hu=>exact ⟨_,(aRV hu).symm⟩
 | 1,hu=>exact ⟨_,(aRV hu).symm⟩
 | 2,hu=>exact ⟨_,(aRV hu).symm⟩
 | j+3,hu=>cases hu
theorem info:(prog.info? 203).map (λ i=>(i.zero,i.size,i.bytes))=some (some zero,3,24):=by kernel_rfl
def sh:gQ:=(.cons (.int .i64) (.cons (.cons (.int .i64) (.cons (.int .i64) .nil)) .nil))
end dm
theorem ags {w:World} {cs:List Value} {a:dm} (h:dm.rep.has w cs a):cs=a.cells:=aTW (show cs=a.cells∧a.ok from h)
end
section
open Go.RowKit Go.Maps
namespace ax
def key (c:ax):Value:= .agg #[.int .i64 c.x, .int .i64 c.y]
theorem laid:laidOutB prog=true:=by kernel_rfl
theorem ayT (x y:Int):(Value.agg #[.int .i64 x, .int .i64 y]).formed prog 55 =true:=by kernel_rfl
theorem ayW:prog.keyType 55 =true:=by kernel_rfl
theorem ayV:∃ n,prog.types.size+1=n+2:=by
 have:1≤prog.types.size:=by decide +kernel
 exact ⟨prog.types.size - 1,by omega⟩
theorem ayS:prog.cellsOf 55 =2∧prog.cellsOf 3 =1:=by
 constructor<;>kernel_rfl
theorem ayU (c:ax) (h:c.ok):∃ l,keyOf prog 55 (key c)=some l:=by
 obtain ⟨hx,aI⟩:=h;obtain ⟨n,hn⟩:=ayV;unfold key keyOf;have hu:=underlying55;rw [hu];simp only [ayW,ayT,Bool.and_self,aTG,hn];have κ:prog.keyLits (n+2) 55 [.int .i64 c.x, .int .i64 c.y]=some [.int .i64 c.x, .int .i64 c.y]:=by
  simp [Program.keyLits,hu,underlying3,ayS,hx,aI]
 exact ⟨.string (keyBytes [.int .i64 c.x, .int .i64 c.y]),by
  have e:(Value.agg #[.int .i64 c.x, .int .i64 c.y]).cells.toList= [.int .i64 c.x, .int .i64 c.y]:=rfl;rw [e,κ];rfl⟩
theorem zJ:T6 prog 55 key ok where
 keyed:=Keyed.of_law (Go.deep_law_laid laid (m:=100) (by decide) (by decide +kernel) (by kernel_rfl) (by kernel_rfl))
 lit:=ayU
 inj:=by
  intro a b h;unfold key at h;injection h with h
  obtain ⟨x,y⟩:=a;obtain ⟨z,t⟩:=b;simp at h;simp [h]
end ax
end
end Go.Proofs.YtmeeljmapailnaaGreat
